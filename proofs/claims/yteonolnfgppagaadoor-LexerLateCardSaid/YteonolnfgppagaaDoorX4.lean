/- The lexer: numbers. Conditions: none. -/
import Derived.Test.YteonolnfgppagaaDoorX3
namespace Go.Proofs.YteonolnfgppagaaDoor
open Go.RowKit
set_option linter.unusedVariables false

def numBad (t : List UInt8) (a : Nat) : Bool :=
  decide (4 < whileB isDig t a - a) || (decide (1 < whileB isDig t a - a) && decide ((t.getD a 0).toNat = 48)) ||
    (decide (whileB isDig t a < t.length) && (isLet (t.getD (whileB isDig t a) 0) || decide ((t.getD (whileB isDig t a) 0).toNat = 95)))
def numM (t : List UInt8) (a : Nat) (ts : List Tok) : Res := if numBad t a = true then .error (40, a) else addM t a ts 2 (whileB isDig t a)
theorem getD_of {t : List UInt8} {a : Nat} {c : UInt8} (h : t[a]? = some c) : t.getD a 0 = c := by simp [List.getD_eq_getElem?_getD, h]

theorem St.ext {w0 w w' : World} {s a : Nat} {t : List UInt8} {ts : List Tok} (h : St w0 w s t a ts) (k : Ext w w') : St w0 w' s t a ts := by
  obtain ⟨hk, hs, hl, ha, hn, tv, hb, ho⟩ := h
  exact ⟨hk.ext k, hs, hl, ha, hn, tv, hb.keep k (by simp), ownsRow_ext ho k⟩

theorem scanNumber_ok (w0 w : World) (s a : Nat) (t : List UInt8) (ts : List Tok) (h : St w0 w s t a ts) (h1 : a < t.length) : FnS 21 [pt s] w w0 s t (numM t a ts) := by
  obtain ⟨hk, hs, hl, ha, hn, tv, hb, ho⟩ := id h
  have hge := whileB_ge isDig t a
  have hle := whileB_le (p := isDig) (t := t) (a := a) (by omega)
  have hc0 : t[a]? = some t[a] := List.getElem?_eq_getElem h1
  generalize t[a] = c0 at hc0
  refine fnP_of_wc Tryd.func21 rfl Tryd.ntmps21 (Nat.le_of_ble_eq_true rfl) (by kernel_rfl) ?_
  repeat'
    first
      | refine Q_then ?_ | refine C_cond_t rfl ?_ | refine C_cond_f rfl ?_ | refine C_seq ?_ | refine C_block ?_ | refine C_skip ?_ | refine C_ret ?_ | refine C_exit ?_
      | refine Q_then_ret ?_ | refine Q_then_exit ?_ | refine Q_block ?_ | refine Q_block_ret ?_ | refine Q_block_here ?_ | refine Q_block_on rfl ?_ | refine C_scope ?_ | refine C_label ?_ | refine Q_asn ?_ | refine Q_then_pan ?_ | refine Q_block_pan ?_ | refine Q_scope_pan ?_
  (refine C_region ?_
   <;> (first | refine M_ptr rfl ?_ | refine W_move ?_)
   <;> (first | refine M_ptr rfl ?_ | refine W_move ?_)
   <;> refine W_nilCheck rfl ?_
   <;> refine W_fieldAddr rfl ?_
   <;> (first | refine W_load rfl (Blk.cell (by assumption) (by rfl)) ?_ | refine W_load rfl (by assumption) ?_))
  -- at operation 5: <dst=(some 9) op=(call <callee=(value (func 24)) args=[(tmp 4), (tmp 8), (func 28)] argTypes=[41, 3, 50]>) type=3 guard=none>
  refine W_call (while_ok dig_ok w s a t _ _ hb (by omega) hl) rfl ?_
  rintro v w' ⟨rfl, rfl⟩
  ((refine M_assign ?_; (first | refine M_int rfl ?_ | refine W_move ?_))
   <;> refine W_nil ?_)
  repeat'
    first
      | refine Q_then ?_ | refine C_cond_t rfl ?_ | refine C_cond_f rfl ?_ | refine C_seq ?_ | refine C_block ?_ | refine C_skip ?_ | refine C_ret ?_ | refine C_exit ?_
      | refine Q_then_ret ?_ | refine Q_then_exit ?_ | refine Q_block ?_ | refine Q_block_ret ?_ | refine Q_block_here ?_ | refine Q_block_on rfl ?_ | refine C_scope ?_ | refine C_label ?_ | refine Q_asn ?_ | refine Q_then_pan ?_ | refine Q_block_pan ?_ | refine Q_scope_pan ?_
  (refine C_region ?_
   <;> (first | refine M_int rfl ?_ | refine W_move ?_)
   <;> (first | refine M_ptr rfl ?_ | refine W_move ?_)
   <;> refine W_nilCheck rfl ?_
   <;> refine W_fieldAddr rfl ?_
   <;> (first | refine W_load rfl (Blk.cell (by assumption) (by rfl)) ?_ | refine W_load rfl (by assumption) ?_)
   <;> refine W_sub rfl rfl (by first | exact inR_i64 (by omega) (by omega) | exact inR_u8 (by omega) (by omega) | exact inR_u16 (by omega) (by omega)) ?_
   <;> (refine M_assign ?_; (first | refine M_int rfl ?_ | refine W_move ?_))
   <;> refine W_nil ?_)
  repeat'
    first
      | refine Q_then ?_ | refine C_cond_t rfl ?_ | refine C_cond_f rfl ?_ | refine C_seq ?_ | refine C_block ?_ | refine C_skip ?_ | refine C_ret ?_ | refine C_exit ?_
      | refine Q_then_ret ?_ | refine Q_then_exit ?_ | refine Q_block ?_ | refine Q_block_ret ?_ | refine Q_block_here ?_ | refine Q_block_on rfl ?_ | refine C_scope ?_ | refine C_label ?_ | refine Q_asn ?_ | refine Q_then_pan ?_ | refine Q_block_pan ?_ | refine Q_scope_pan ?_
  refine C_drawN (.read 0 (.read 1 (.read 2 (.read 3 (.read 4 (.read 5 (.read 6 (.read 7 (.read 8 (.read 9 (.read 10 (.read 11 (.read 12 (.read 13 (.read 14 (.read 15 (.read 16 (.read 17 .done)))))))))))))))))) mixed (by kernel_rfl) (fun wd kd ed => ⟨fun W => W = wd, ?_, ?_⟩)
  · rfl
  have hbd := hb.keep kd (by simp)
  have hs2 := h.ext kd
  by_cases b1 : 4 < whileB isDig t a - a
  · ((apply D_R rfl rfl; (intro W hW; subst hW; (first | refine M_int rfl ?_ | refine W_move ?_); exact W_nil ⟨rfl, rfl, rfl⟩))
     <;> (refine D_gtr rfl rfl rfl rfl (fun hc => ?_) (fun hc => ?_) <;> try (exfalso; omega))
     <;> (apply D_R rfl rfl; (intro W hW; subst hW; (first | refine M_bool rfl ?_ | refine W_move ?_); exact W_nil ⟨rfl, rfl, rfl⟩))
     <;> (first | refine D_skip rfl rfl rfl rfl ?_ | (apply D_R rfl rfl; (intro W hW; refine W_no rfl ?_; exact W_nil ⟨rfl, rfl, rfl⟩)) | (apply D_R rfl rfl; (intro W hW; subst hW; (refine W_yes rfl ?_; (first | refine M_int rfl ?_ | refine W_move ?_)); exact W_nil ⟨rfl, rfl, rfl⟩)))
     <;> (first | refine D_skip rfl rfl rfl rfl ?_ | (apply D_R rfl rfl; (intro W hW; refine W_no rfl ?_; exact W_nil ⟨rfl, rfl, rfl⟩)) | (refine D_gtr rfl rfl rfl rfl (fun hc => ?_) (fun hc => ?_) <;> try (exfalso; omega)))
     <;> (first | refine D_skip rfl rfl rfl rfl ?_ | (apply D_R rfl rfl; (intro W hW; refine W_no rfl ?_; exact W_nil ⟨rfl, rfl, rfl⟩)) | (apply D_R rfl rfl; (intro W hW; subst hW; (refine W_yes rfl ?_; (first | refine M_bool rfl ?_ | refine W_move ?_)); exact W_nil ⟨rfl, rfl, rfl⟩)))
     <;> (first | refine D_skip rfl rfl rfl rfl ?_ | (apply D_R rfl rfl; (intro W hW; refine W_no rfl ?_; exact W_nil ⟨rfl, rfl, rfl⟩)) | (apply D_R rfl rfl; (intro W hW; subst hW; (refine W_yes rfl ?_; (first | refine M_ptr rfl ?_ | refine W_move ?_)); exact W_nil ⟨rfl, rfl, rfl⟩)))
     <;> (first | refine D_skip rfl rfl rfl rfl ?_ | (apply D_R rfl rfl; (intro W hW; refine W_no rfl ?_; exact W_nil ⟨rfl, rfl, rfl⟩)) | (apply D_R rfl rfl; (intro W hW; subst hW; (refine W_yes rfl ?_; refine W_nilCheck rfl ?_); exact W_nil ⟨rfl, rfl, rfl⟩)))
     <;> (first | refine D_skip rfl rfl rfl rfl ?_ | (apply D_R rfl rfl; (intro W hW; refine W_no rfl ?_; exact W_nil ⟨rfl, rfl, rfl⟩)) | (apply D_R rfl rfl; (intro W hW; subst hW; (refine W_yes rfl ?_; refine W_fieldAddr rfl ?_); exact W_nil ⟨rfl, rfl, rfl⟩)))
     <;> (first | refine D_skip rfl rfl rfl rfl ?_ | (apply D_R rfl rfl; (intro W hW; refine W_no rfl ?_; exact W_nil ⟨rfl, rfl, rfl⟩)) | (apply D_R rfl rfl; (intro W hW; subst hW; (refine W_yes rfl ?_; (first | refine W_load rfl (Blk.cell (by assumption) (by rfl)) ?_ | refine W_load rfl (by assumption) ?_)); exact W_nil ⟨rfl, rfl, rfl⟩)))
     <;> (first | refine D_skip rfl rfl rfl rfl ?_ | (apply D_R rfl rfl; (intro W hW; refine W_no rfl ?_; exact W_nil ⟨rfl, rfl, rfl⟩)) | (apply D_R rfl rfl; (intro W hW; subst hW; (refine W_yes rfl ?_; (first | refine M_ptr rfl ?_ | refine W_move ?_)); exact W_nil ⟨rfl, rfl, rfl⟩)))
     <;> (first | refine D_skip rfl rfl rfl rfl ?_ | (apply D_R rfl rfl; (intro W hW; refine W_no rfl ?_; exact W_nil ⟨rfl, rfl, rfl⟩)) | (apply D_R rfl rfl; (intro W hW; subst hW; (refine W_yes rfl ?_; refine W_nilCheck rfl ?_); exact W_nil ⟨rfl, rfl, rfl⟩)))
     <;> (first | refine D_skip rfl rfl rfl rfl ?_ | (apply D_R rfl rfl; (intro W hW; refine W_no rfl ?_; exact W_nil ⟨rfl, rfl, rfl⟩)) | (apply D_R rfl rfl; (intro W hW; subst hW; (refine W_yes rfl ?_; refine W_fieldAddr rfl ?_); exact W_nil ⟨rfl, rfl, rfl⟩)))
     <;> (first | refine D_skip rfl rfl rfl rfl ?_ | (apply D_R rfl rfl; (intro W hW; refine W_no rfl ?_; exact W_nil ⟨rfl, rfl, rfl⟩)) | (apply D_R rfl rfl; (intro W hW; subst hW; (refine W_yes rfl ?_; (first | refine W_load rfl (Blk.cell (by assumption) (by rfl)) ?_ | refine W_load rfl (by assumption) ?_)); exact W_nil ⟨rfl, rfl, rfl⟩)))
     <;> (first | refine D_skip rfl rfl rfl rfl ?_ | (apply D_R rfl rfl; (intro W hW; refine W_no rfl ?_; exact W_nil ⟨rfl, rfl, rfl⟩)) | (apply D_R rfl rfl; (intro W hW; subst hW; (refine W_yes rfl ?_; refine W_sidx rfl rfl (by assumption) ?_); exact W_nil ⟨rfl, rfl, rfl⟩)))
     <;> (first | refine D_skip rfl rfl rfl rfl ?_ | (apply D_R rfl rfl; (intro W hW; refine W_no rfl ?_; exact W_nil ⟨rfl, rfl, rfl⟩)) | (refine D_eql rfl rfl rfl rfl (fun hc => ?_) (fun hc => ?_) <;> try (exfalso; omega)))
     <;> (first | refine D_skip rfl rfl rfl rfl ?_ | (apply D_R rfl rfl; (intro W hW; refine W_no rfl ?_; exact W_nil ⟨rfl, rfl, rfl⟩)) | (apply D_R rfl rfl; (intro W hW; subst hW; (refine W_yes rfl ?_; ((first | refine M_pick_t rfl ?_ | refine M_pick_f rfl ?_); (first | refine M_bool rfl ?_ | refine W_move ?_))); exact W_nil ⟨rfl, rfl, rfl⟩)))
     <;> (apply D_R rfl rfl; (intro W hW; subst hW; ((first | refine M_pick_t rfl ?_ | refine M_pick_f rfl ?_); (first | refine M_bool rfl ?_ | refine W_move ?_)); exact W_nil ⟨rfl, rfl, rfl⟩))
     <;> refine D_nil ?_)
    have hbad : numBad t a = true := by unfold numBad; simp [b1]
    repeat'
      first
        | refine Q_then ?_ | refine C_cond_t rfl ?_ | refine C_cond_f rfl ?_ | refine C_seq ?_ | refine C_block ?_ | refine C_skip ?_ | refine C_ret ?_ | refine C_exit ?_
        | refine Q_then_ret ?_ | refine Q_then_exit ?_ | refine Q_block ?_ | refine Q_block_ret ?_ | refine Q_block_here ?_ | refine Q_block_on rfl ?_ | refine C_scope ?_ | refine C_label ?_ | refine Q_asn ?_ | refine Q_then_pan ?_ | refine Q_block_pan ?_ | refine Q_scope_pan ?_
    (refine C_region ?_
     <;> (first | refine M_ptr rfl ?_ | refine W_move ?_)
     <;> refine W_nilCheck rfl ?_
     <;> refine W_fieldAddr rfl ?_
     <;> (first | refine W_load rfl (Blk.cell (by assumption) (by rfl)) ?_ | refine W_load rfl (by assumption) ?_)
     <;> refine W_build (by rfl) (by rfl) ?_
     <;> refine W_iface ?_
     <;> refine W_panic rfl ?_)
    repeat'
      first
        | refine Q_then ?_ | refine C_cond_t rfl ?_ | refine C_cond_f rfl ?_ | refine C_seq ?_ | refine C_block ?_ | refine C_skip ?_ | refine C_ret ?_ | refine C_exit ?_
        | refine Q_then_ret ?_ | refine Q_then_exit ?_ | refine Q_block ?_ | refine Q_block_ret ?_ | refine Q_block_here ?_ | refine Q_block_on rfl ?_ | refine C_scope ?_ | refine C_label ?_ | refine Q_asn ?_ | refine Q_then_pan ?_ | refine Q_block_pan ?_ | refine Q_scope_pan ?_
    exact fin_pan ⟨_, _, by unfold numM; rw [if_pos hbad], rfl, hs2.keep⟩
  · by_cases b2 : 1 < whileB isDig t a - a
    · by_cases b3 : c0.toNat = 48
      · ((apply D_R rfl rfl; (intro W hW; subst hW; (first | refine M_int rfl ?_ | refine W_move ?_); exact W_nil ⟨rfl, rfl, rfl⟩))
         <;> (refine D_gtr rfl rfl rfl rfl (fun hc => ?_) (fun hc => ?_) <;> try (exfalso; omega))
         <;> (apply D_R rfl rfl; (intro W hW; subst hW; (first | refine M_bool rfl ?_ | refine W_move ?_); exact W_nil ⟨rfl, rfl, rfl⟩))
         <;> (first | refine D_skip rfl rfl rfl rfl ?_ | (apply D_R rfl rfl; (intro W hW; refine W_no rfl ?_; exact W_nil ⟨rfl, rfl, rfl⟩)) | (apply D_R rfl rfl; (intro W hW; subst hW; (refine W_yes rfl ?_; (first | refine M_int rfl ?_ | refine W_move ?_)); exact W_nil ⟨rfl, rfl, rfl⟩)))
         <;> (first | refine D_skip rfl rfl rfl rfl ?_ | (apply D_R rfl rfl; (intro W hW; refine W_no rfl ?_; exact W_nil ⟨rfl, rfl, rfl⟩)) | (refine D_gtr rfl rfl rfl rfl (fun hc => ?_) (fun hc => ?_) <;> try (exfalso; omega)))
         <;> (first | refine D_skip rfl rfl rfl rfl ?_ | (apply D_R rfl rfl; (intro W hW; refine W_no rfl ?_; exact W_nil ⟨rfl, rfl, rfl⟩)) | (apply D_R rfl rfl; (intro W hW; subst hW; (refine W_yes rfl ?_; (first | refine M_bool rfl ?_ | refine W_move ?_)); exact W_nil ⟨rfl, rfl, rfl⟩)))
         <;> (first | refine D_skip rfl rfl rfl rfl ?_ | (apply D_R rfl rfl; (intro W hW; refine W_no rfl ?_; exact W_nil ⟨rfl, rfl, rfl⟩)) | (apply D_R rfl rfl; (intro W hW; subst hW; (refine W_yes rfl ?_; (first | refine M_ptr rfl ?_ | refine W_move ?_)); exact W_nil ⟨rfl, rfl, rfl⟩)))
         <;> (first | refine D_skip rfl rfl rfl rfl ?_ | (apply D_R rfl rfl; (intro W hW; refine W_no rfl ?_; exact W_nil ⟨rfl, rfl, rfl⟩)) | (apply D_R rfl rfl; (intro W hW; subst hW; (refine W_yes rfl ?_; refine W_nilCheck rfl ?_); exact W_nil ⟨rfl, rfl, rfl⟩)))
         <;> (first | refine D_skip rfl rfl rfl rfl ?_ | (apply D_R rfl rfl; (intro W hW; refine W_no rfl ?_; exact W_nil ⟨rfl, rfl, rfl⟩)) | (apply D_R rfl rfl; (intro W hW; subst hW; (refine W_yes rfl ?_; refine W_fieldAddr rfl ?_); exact W_nil ⟨rfl, rfl, rfl⟩)))
         <;> (first | refine D_skip rfl rfl rfl rfl ?_ | (apply D_R rfl rfl; (intro W hW; refine W_no rfl ?_; exact W_nil ⟨rfl, rfl, rfl⟩)) | (apply D_R rfl rfl; (intro W hW; subst hW; (refine W_yes rfl ?_; (first | refine W_load rfl (Blk.cell (by assumption) (by rfl)) ?_ | refine W_load rfl (by assumption) ?_)); exact W_nil ⟨rfl, rfl, rfl⟩)))
         <;> (first | refine D_skip rfl rfl rfl rfl ?_ | (apply D_R rfl rfl; (intro W hW; refine W_no rfl ?_; exact W_nil ⟨rfl, rfl, rfl⟩)) | (apply D_R rfl rfl; (intro W hW; subst hW; (refine W_yes rfl ?_; (first | refine M_ptr rfl ?_ | refine W_move ?_)); exact W_nil ⟨rfl, rfl, rfl⟩)))
         <;> (first | refine D_skip rfl rfl rfl rfl ?_ | (apply D_R rfl rfl; (intro W hW; refine W_no rfl ?_; exact W_nil ⟨rfl, rfl, rfl⟩)) | (apply D_R rfl rfl; (intro W hW; subst hW; (refine W_yes rfl ?_; refine W_nilCheck rfl ?_); exact W_nil ⟨rfl, rfl, rfl⟩)))
         <;> (first | refine D_skip rfl rfl rfl rfl ?_ | (apply D_R rfl rfl; (intro W hW; refine W_no rfl ?_; exact W_nil ⟨rfl, rfl, rfl⟩)) | (apply D_R rfl rfl; (intro W hW; subst hW; (refine W_yes rfl ?_; refine W_fieldAddr rfl ?_); exact W_nil ⟨rfl, rfl, rfl⟩)))
         <;> (first | refine D_skip rfl rfl rfl rfl ?_ | (apply D_R rfl rfl; (intro W hW; refine W_no rfl ?_; exact W_nil ⟨rfl, rfl, rfl⟩)) | (apply D_R rfl rfl; (intro W hW; subst hW; (refine W_yes rfl ?_; (first | refine W_load rfl (Blk.cell (by assumption) (by rfl)) ?_ | refine W_load rfl (by assumption) ?_)); exact W_nil ⟨rfl, rfl, rfl⟩)))
         <;> (first | refine D_skip rfl rfl rfl rfl ?_ | (apply D_R rfl rfl; (intro W hW; refine W_no rfl ?_; exact W_nil ⟨rfl, rfl, rfl⟩)) | (apply D_R rfl rfl; (intro W hW; subst hW; (refine W_yes rfl ?_; refine W_sidx rfl rfl (by assumption) ?_); exact W_nil ⟨rfl, rfl, rfl⟩)))
         <;> (first | refine D_skip rfl rfl rfl rfl ?_ | (apply D_R rfl rfl; (intro W hW; refine W_no rfl ?_; exact W_nil ⟨rfl, rfl, rfl⟩)) | (refine D_eql rfl rfl rfl rfl (fun hc => ?_) (fun hc => ?_) <;> try (exfalso; omega)))
         <;> (first | refine D_skip rfl rfl rfl rfl ?_ | (apply D_R rfl rfl; (intro W hW; refine W_no rfl ?_; exact W_nil ⟨rfl, rfl, rfl⟩)) | (apply D_R rfl rfl; (intro W hW; subst hW; (refine W_yes rfl ?_; ((first | refine M_pick_t rfl ?_ | refine M_pick_f rfl ?_); (first | refine M_bool rfl ?_ | refine W_move ?_))); exact W_nil ⟨rfl, rfl, rfl⟩)))
         <;> (apply D_R rfl rfl; (intro W hW; subst hW; ((first | refine M_pick_t rfl ?_ | refine M_pick_f rfl ?_); (first | refine M_bool rfl ?_ | refine W_move ?_)); exact W_nil ⟨rfl, rfl, rfl⟩))
         <;> refine D_nil ?_)
        have hbad : numBad t a = true := by unfold numBad; rw [getD_of hc0]; simp [b2, b3]
        repeat'
          first
            | refine Q_then ?_ | refine C_cond_t rfl ?_ | refine C_cond_f rfl ?_ | refine C_seq ?_ | refine C_block ?_ | refine C_skip ?_ | refine C_ret ?_ | refine C_exit ?_
            | refine Q_then_ret ?_ | refine Q_then_exit ?_ | refine Q_block ?_ | refine Q_block_ret ?_ | refine Q_block_here ?_ | refine Q_block_on rfl ?_ | refine C_scope ?_ | refine C_label ?_ | refine Q_asn ?_ | refine Q_then_pan ?_ | refine Q_block_pan ?_ | refine Q_scope_pan ?_
        (refine C_region ?_
         <;> (first | refine M_ptr rfl ?_ | refine W_move ?_)
         <;> refine W_nilCheck rfl ?_
         <;> refine W_fieldAddr rfl ?_
         <;> (first | refine W_load rfl (Blk.cell (by assumption) (by rfl)) ?_ | refine W_load rfl (by assumption) ?_)
         <;> refine W_build (by rfl) (by rfl) ?_
         <;> refine W_iface ?_
         <;> refine W_panic rfl ?_)
        repeat'
          first
            | refine Q_then ?_ | refine C_cond_t rfl ?_ | refine C_cond_f rfl ?_ | refine C_seq ?_ | refine C_block ?_ | refine C_skip ?_ | refine C_ret ?_ | refine C_exit ?_
            | refine Q_then_ret ?_ | refine Q_then_exit ?_ | refine Q_block ?_ | refine Q_block_ret ?_ | refine Q_block_here ?_ | refine Q_block_on rfl ?_ | refine C_scope ?_ | refine C_label ?_ | refine Q_asn ?_ | refine Q_then_pan ?_ | refine Q_block_pan ?_ | refine Q_scope_pan ?_
        exact fin_pan ⟨_, _, by unfold numM; rw [if_pos hbad], rfl, hs2.keep⟩
      · have hb2 : (decide (1 < whileB isDig t a - a) && decide ((t.getD a 0).toNat = 48)) = false := by rw [getD_of hc0]; simp [b3]
        ((apply D_R rfl rfl; (intro W hW; subst hW; (first | refine M_int rfl ?_ | refine W_move ?_); exact W_nil ⟨rfl, rfl, rfl⟩))
         <;> (refine D_gtr rfl rfl rfl rfl (fun hc => ?_) (fun hc => ?_) <;> try (exfalso; omega))
         <;> (apply D_R rfl rfl; (intro W hW; subst hW; (first | refine M_bool rfl ?_ | refine W_move ?_); exact W_nil ⟨rfl, rfl, rfl⟩))
         <;> (first | refine D_skip rfl rfl rfl rfl ?_ | (apply D_R rfl rfl; (intro W hW; refine W_no rfl ?_; exact W_nil ⟨rfl, rfl, rfl⟩)) | (apply D_R rfl rfl; (intro W hW; subst hW; (refine W_yes rfl ?_; (first | refine M_int rfl ?_ | refine W_move ?_)); exact W_nil ⟨rfl, rfl, rfl⟩)))
         <;> (first | refine D_skip rfl rfl rfl rfl ?_ | (apply D_R rfl rfl; (intro W hW; refine W_no rfl ?_; exact W_nil ⟨rfl, rfl, rfl⟩)) | (refine D_gtr rfl rfl rfl rfl (fun hc => ?_) (fun hc => ?_) <;> try (exfalso; omega)))
         <;> (first | refine D_skip rfl rfl rfl rfl ?_ | (apply D_R rfl rfl; (intro W hW; refine W_no rfl ?_; exact W_nil ⟨rfl, rfl, rfl⟩)) | (apply D_R rfl rfl; (intro W hW; subst hW; (refine W_yes rfl ?_; (first | refine M_bool rfl ?_ | refine W_move ?_)); exact W_nil ⟨rfl, rfl, rfl⟩)))
         <;> (first | refine D_skip rfl rfl rfl rfl ?_ | (apply D_R rfl rfl; (intro W hW; refine W_no rfl ?_; exact W_nil ⟨rfl, rfl, rfl⟩)) | (apply D_R rfl rfl; (intro W hW; subst hW; (refine W_yes rfl ?_; (first | refine M_ptr rfl ?_ | refine W_move ?_)); exact W_nil ⟨rfl, rfl, rfl⟩)))
         <;> (first | refine D_skip rfl rfl rfl rfl ?_ | (apply D_R rfl rfl; (intro W hW; refine W_no rfl ?_; exact W_nil ⟨rfl, rfl, rfl⟩)) | (apply D_R rfl rfl; (intro W hW; subst hW; (refine W_yes rfl ?_; refine W_nilCheck rfl ?_); exact W_nil ⟨rfl, rfl, rfl⟩)))
         <;> (first | refine D_skip rfl rfl rfl rfl ?_ | (apply D_R rfl rfl; (intro W hW; refine W_no rfl ?_; exact W_nil ⟨rfl, rfl, rfl⟩)) | (apply D_R rfl rfl; (intro W hW; subst hW; (refine W_yes rfl ?_; refine W_fieldAddr rfl ?_); exact W_nil ⟨rfl, rfl, rfl⟩)))
         <;> (first | refine D_skip rfl rfl rfl rfl ?_ | (apply D_R rfl rfl; (intro W hW; refine W_no rfl ?_; exact W_nil ⟨rfl, rfl, rfl⟩)) | (apply D_R rfl rfl; (intro W hW; subst hW; (refine W_yes rfl ?_; (first | refine W_load rfl (Blk.cell (by assumption) (by rfl)) ?_ | refine W_load rfl (by assumption) ?_)); exact W_nil ⟨rfl, rfl, rfl⟩)))
         <;> (first | refine D_skip rfl rfl rfl rfl ?_ | (apply D_R rfl rfl; (intro W hW; refine W_no rfl ?_; exact W_nil ⟨rfl, rfl, rfl⟩)) | (apply D_R rfl rfl; (intro W hW; subst hW; (refine W_yes rfl ?_; (first | refine M_ptr rfl ?_ | refine W_move ?_)); exact W_nil ⟨rfl, rfl, rfl⟩)))
         <;> (first | refine D_skip rfl rfl rfl rfl ?_ | (apply D_R rfl rfl; (intro W hW; refine W_no rfl ?_; exact W_nil ⟨rfl, rfl, rfl⟩)) | (apply D_R rfl rfl; (intro W hW; subst hW; (refine W_yes rfl ?_; refine W_nilCheck rfl ?_); exact W_nil ⟨rfl, rfl, rfl⟩)))
         <;> (first | refine D_skip rfl rfl rfl rfl ?_ | (apply D_R rfl rfl; (intro W hW; refine W_no rfl ?_; exact W_nil ⟨rfl, rfl, rfl⟩)) | (apply D_R rfl rfl; (intro W hW; subst hW; (refine W_yes rfl ?_; refine W_fieldAddr rfl ?_); exact W_nil ⟨rfl, rfl, rfl⟩)))
         <;> (first | refine D_skip rfl rfl rfl rfl ?_ | (apply D_R rfl rfl; (intro W hW; refine W_no rfl ?_; exact W_nil ⟨rfl, rfl, rfl⟩)) | (apply D_R rfl rfl; (intro W hW; subst hW; (refine W_yes rfl ?_; (first | refine W_load rfl (Blk.cell (by assumption) (by rfl)) ?_ | refine W_load rfl (by assumption) ?_)); exact W_nil ⟨rfl, rfl, rfl⟩)))
         <;> (first | refine D_skip rfl rfl rfl rfl ?_ | (apply D_R rfl rfl; (intro W hW; refine W_no rfl ?_; exact W_nil ⟨rfl, rfl, rfl⟩)) | (apply D_R rfl rfl; (intro W hW; subst hW; (refine W_yes rfl ?_; refine W_sidx rfl rfl (by assumption) ?_); exact W_nil ⟨rfl, rfl, rfl⟩)))
         <;> (first | refine D_skip rfl rfl rfl rfl ?_ | (apply D_R rfl rfl; (intro W hW; refine W_no rfl ?_; exact W_nil ⟨rfl, rfl, rfl⟩)) | (refine D_eql rfl rfl rfl rfl (fun hc => ?_) (fun hc => ?_) <;> try (exfalso; omega)))
         <;> (first | refine D_skip rfl rfl rfl rfl ?_ | (apply D_R rfl rfl; (intro W hW; refine W_no rfl ?_; exact W_nil ⟨rfl, rfl, rfl⟩)) | (apply D_R rfl rfl; (intro W hW; subst hW; (refine W_yes rfl ?_; ((first | refine M_pick_t rfl ?_ | refine M_pick_f rfl ?_); (first | refine M_bool rfl ?_ | refine W_move ?_))); exact W_nil ⟨rfl, rfl, rfl⟩)))
         <;> (apply D_R rfl rfl; (intro W hW; subst hW; ((first | refine M_pick_t rfl ?_ | refine M_pick_f rfl ?_); (first | refine M_bool rfl ?_ | refine W_move ?_)); exact W_nil ⟨rfl, rfl, rfl⟩))
         <;> refine D_nil ?_)
        repeat'
          first
            | refine Q_then ?_ | refine C_cond_t rfl ?_ | refine C_cond_f rfl ?_ | refine C_seq ?_ | refine C_block ?_ | refine C_skip ?_ | refine C_ret ?_ | refine C_exit ?_
            | refine Q_then_ret ?_ | refine Q_then_exit ?_ | refine Q_block ?_ | refine Q_block_ret ?_ | refine Q_block_here ?_ | refine Q_block_on rfl ?_ | refine C_scope ?_ | refine C_label ?_ | refine Q_asn ?_ | refine Q_then_pan ?_ | refine Q_block_pan ?_ | refine Q_scope_pan ?_
        by_cases b4 : whileB isDig t a < t.length
        · have hc1 : t[whileB isDig t a]? = some t[whileB isDig t a] := List.getElem?_eq_getElem b4
          generalize t[whileB isDig t a] = c1 at hc1
          have hg1 := getD_of hc1
          (refine C_region ?_
           <;> (first | refine M_int rfl ?_ | refine W_move ?_)
           <;> (first | refine M_ptr rfl ?_ | refine W_move ?_)
           <;> refine W_nilCheck rfl ?_
           <;> refine W_fieldAddr rfl ?_
           <;> (first | refine W_load rfl (Blk.cell (by assumption) (by rfl)) ?_ | refine W_load rfl (by assumption) ?_)
           <;> refine W_slen rfl ?_
           <;> (refine W_lss rfl rfl (fun hc => ?_) (fun hc => ?_) <;> try (exfalso; omega))
           <;> (first | refine M_bool rfl ?_ | refine W_move ?_)
           <;> (first | refine W_no rfl ?_ | (refine W_yes rfl ?_; (first | refine M_ptr rfl ?_ | refine W_move ?_)))
           <;> (first | refine W_no rfl ?_ | (refine W_yes rfl ?_; refine W_nilCheck rfl ?_))
           <;> (first | refine W_no rfl ?_ | (refine W_yes rfl ?_; refine W_fieldAddr rfl ?_))
           <;> (first | refine W_no rfl ?_ | (refine W_yes rfl ?_; (first | refine W_load rfl (Blk.cell (by assumption) (by rfl)) ?_ | refine W_load rfl (by assumption) ?_)))
           <;> (first | refine W_no rfl ?_ | (refine W_yes rfl ?_; (first | refine M_int rfl ?_ | refine W_move ?_)))
           <;> (first | refine W_no rfl ?_ | (refine W_yes rfl ?_; refine W_sidx rfl rfl (by assumption) ?_)))
          -- at operation 14: <dst=(some 54) op=(call <callee=(value (func 30)) args=[(tmp 53)] argTypes=[5]>) type=4 guard=(some [7, true])>
          refine W_yes rfl ?_
          refine W_call (let_ok c1 _) rfl ?_
          rintro v w2 ⟨rfl, rfl⟩
          cases hlet : isLet c1 with
          | true =>
            have hbad : numBad t a = true := by unfold numBad; rw [hg1]; simp [b4, hlet]
            ((first | refine W_no rfl ?_ | (refine W_yes rfl ?_; (first | refine M_bool rfl ?_ | refine W_move ?_)))
             <;> (first | refine W_no rfl ?_ | (refine W_yes rfl ?_; (first | refine M_ptr rfl ?_ | refine W_move ?_)))
             <;> (first | refine W_no rfl ?_ | (refine W_yes rfl ?_; refine W_nilCheck rfl ?_))
             <;> (first | refine W_no rfl ?_ | (refine W_yes rfl ?_; refine W_fieldAddr rfl ?_))
             <;> (first | refine W_no rfl ?_ | (refine W_yes rfl ?_; (first | refine W_load rfl (Blk.cell (by assumption) (by rfl)) ?_ | refine W_load rfl (by assumption) ?_)))
             <;> (first | refine W_no rfl ?_ | (refine W_yes rfl ?_; (first | refine M_int rfl ?_ | refine W_move ?_)))
             <;> (first | refine W_no rfl ?_ | (refine W_yes rfl ?_; refine W_sidx rfl rfl (by assumption) ?_))
             <;> (first | refine W_no rfl ?_ | (refine W_yes rfl ?_; (refine W_eql rfl rfl (fun hc => ?_) (fun hc => ?_) <;> try (exfalso; omega))))
             <;> (first | refine W_no rfl ?_ | (refine W_yes rfl ?_; ((first | refine M_pick_t rfl ?_ | refine M_pick_f rfl ?_); (first | refine M_bool rfl ?_ | refine W_move ?_))))
             <;> ((first | refine M_pick_t rfl ?_ | refine M_pick_f rfl ?_); (first | refine M_bool rfl ?_ | refine W_move ?_))
             <;> refine W_nil ?_)
            repeat'
              first
                | refine Q_then ?_ | refine C_cond_t rfl ?_ | refine C_cond_f rfl ?_ | refine C_seq ?_ | refine C_block ?_ | refine C_skip ?_ | refine C_ret ?_ | refine C_exit ?_
                | refine Q_then_ret ?_ | refine Q_then_exit ?_ | refine Q_block ?_ | refine Q_block_ret ?_ | refine Q_block_here ?_ | refine Q_block_on rfl ?_ | refine C_scope ?_ | refine C_label ?_ | refine Q_asn ?_ | refine Q_then_pan ?_ | refine Q_block_pan ?_ | refine Q_scope_pan ?_
            (refine C_region ?_
             <;> (first | refine M_ptr rfl ?_ | refine W_move ?_)
             <;> refine W_nilCheck rfl ?_
             <;> refine W_fieldAddr rfl ?_
             <;> (first | refine W_load rfl (Blk.cell (by assumption) (by rfl)) ?_ | refine W_load rfl (by assumption) ?_)
             <;> refine W_build (by rfl) (by rfl) ?_
             <;> refine W_iface ?_
             <;> refine W_panic rfl ?_)
            repeat'
              first
                | refine Q_then ?_ | refine C_cond_t rfl ?_ | refine C_cond_f rfl ?_ | refine C_seq ?_ | refine C_block ?_ | refine C_skip ?_ | refine C_ret ?_ | refine C_exit ?_
                | refine Q_then_ret ?_ | refine Q_then_exit ?_ | refine Q_block ?_ | refine Q_block_ret ?_ | refine Q_block_here ?_ | refine Q_block_on rfl ?_ | refine C_scope ?_ | refine C_label ?_ | refine Q_asn ?_ | refine Q_then_pan ?_ | refine Q_block_pan ?_ | refine Q_scope_pan ?_
            exact fin_pan ⟨_, _, by unfold numM; rw [if_pos hbad], rfl, hs2.keep⟩
          | false =>
            by_cases b5 : c1.toNat = 95
            · have hbad : numBad t a = true := by unfold numBad; rw [hg1]; simp [b4, b5]
              ((first | refine W_no rfl ?_ | (refine W_yes rfl ?_; (first | refine M_bool rfl ?_ | refine W_move ?_)))
               <;> (first | refine W_no rfl ?_ | (refine W_yes rfl ?_; (first | refine M_ptr rfl ?_ | refine W_move ?_)))
               <;> (first | refine W_no rfl ?_ | (refine W_yes rfl ?_; refine W_nilCheck rfl ?_))
               <;> (first | refine W_no rfl ?_ | (refine W_yes rfl ?_; refine W_fieldAddr rfl ?_))
               <;> (first | refine W_no rfl ?_ | (refine W_yes rfl ?_; (first | refine W_load rfl (Blk.cell (by assumption) (by rfl)) ?_ | refine W_load rfl (by assumption) ?_)))
               <;> (first | refine W_no rfl ?_ | (refine W_yes rfl ?_; (first | refine M_int rfl ?_ | refine W_move ?_)))
               <;> (first | refine W_no rfl ?_ | (refine W_yes rfl ?_; refine W_sidx rfl rfl (by assumption) ?_))
               <;> (first | refine W_no rfl ?_ | (refine W_yes rfl ?_; (refine W_eql rfl rfl (fun hc => ?_) (fun hc => ?_) <;> try (exfalso; omega))))
               <;> (first | refine W_no rfl ?_ | (refine W_yes rfl ?_; ((first | refine M_pick_t rfl ?_ | refine M_pick_f rfl ?_); (first | refine M_bool rfl ?_ | refine W_move ?_))))
               <;> ((first | refine M_pick_t rfl ?_ | refine M_pick_f rfl ?_); (first | refine M_bool rfl ?_ | refine W_move ?_))
               <;> refine W_nil ?_)
              repeat'
                first
                  | refine Q_then ?_ | refine C_cond_t rfl ?_ | refine C_cond_f rfl ?_ | refine C_seq ?_ | refine C_block ?_ | refine C_skip ?_ | refine C_ret ?_ | refine C_exit ?_
                  | refine Q_then_ret ?_ | refine Q_then_exit ?_ | refine Q_block ?_ | refine Q_block_ret ?_ | refine Q_block_here ?_ | refine Q_block_on rfl ?_ | refine C_scope ?_ | refine C_label ?_ | refine Q_asn ?_ | refine Q_then_pan ?_ | refine Q_block_pan ?_ | refine Q_scope_pan ?_
              (refine C_region ?_
               <;> (first | refine M_ptr rfl ?_ | refine W_move ?_)
               <;> refine W_nilCheck rfl ?_
               <;> refine W_fieldAddr rfl ?_
               <;> (first | refine W_load rfl (Blk.cell (by assumption) (by rfl)) ?_ | refine W_load rfl (by assumption) ?_)
               <;> refine W_build (by rfl) (by rfl) ?_
               <;> refine W_iface ?_
               <;> refine W_panic rfl ?_)
              repeat'
                first
                  | refine Q_then ?_ | refine C_cond_t rfl ?_ | refine C_cond_f rfl ?_ | refine C_seq ?_ | refine C_block ?_ | refine C_skip ?_ | refine C_ret ?_ | refine C_exit ?_
                  | refine Q_then_ret ?_ | refine Q_then_exit ?_ | refine Q_block ?_ | refine Q_block_ret ?_ | refine Q_block_here ?_ | refine Q_block_on rfl ?_ | refine C_scope ?_ | refine C_label ?_ | refine Q_asn ?_ | refine Q_then_pan ?_ | refine Q_block_pan ?_ | refine Q_scope_pan ?_
              exact fin_pan ⟨_, _, by unfold numM; rw [if_pos hbad], rfl, hs2.keep⟩
            · have hbad : numBad t a = false := by
                unfold numBad
                rw [hg1, hb2, hlet, decide_eq_false b1, decide_eq_false b5]
                simp
              ((first | refine W_no rfl ?_ | (refine W_yes rfl ?_; (first | refine M_bool rfl ?_ | refine W_move ?_)))
               <;> (first | refine W_no rfl ?_ | (refine W_yes rfl ?_; (first | refine M_ptr rfl ?_ | refine W_move ?_)))
               <;> (first | refine W_no rfl ?_ | (refine W_yes rfl ?_; refine W_nilCheck rfl ?_))
               <;> (first | refine W_no rfl ?_ | (refine W_yes rfl ?_; refine W_fieldAddr rfl ?_))
               <;> (first | refine W_no rfl ?_ | (refine W_yes rfl ?_; (first | refine W_load rfl (Blk.cell (by assumption) (by rfl)) ?_ | refine W_load rfl (by assumption) ?_)))
               <;> (first | refine W_no rfl ?_ | (refine W_yes rfl ?_; (first | refine M_int rfl ?_ | refine W_move ?_)))
               <;> (first | refine W_no rfl ?_ | (refine W_yes rfl ?_; refine W_sidx rfl rfl (by assumption) ?_))
               <;> (first | refine W_no rfl ?_ | (refine W_yes rfl ?_; (refine W_eql rfl rfl (fun hc => ?_) (fun hc => ?_) <;> try (exfalso; omega))))
               <;> (first | refine W_no rfl ?_ | (refine W_yes rfl ?_; ((first | refine M_pick_t rfl ?_ | refine M_pick_f rfl ?_); (first | refine M_bool rfl ?_ | refine W_move ?_))))
               <;> ((first | refine M_pick_t rfl ?_ | refine M_pick_f rfl ?_); (first | refine M_bool rfl ?_ | refine W_move ?_))
               <;> refine W_nil ?_)
              repeat'
                first
                  | refine Q_then ?_ | refine C_cond_t rfl ?_ | refine C_cond_f rfl ?_ | refine C_seq ?_ | refine C_block ?_ | refine C_skip ?_ | refine C_ret ?_ | refine C_exit ?_
                  | refine Q_then_ret ?_ | refine Q_then_exit ?_ | refine Q_block ?_ | refine Q_block_ret ?_ | refine Q_block_here ?_ | refine Q_block_on rfl ?_ | refine C_scope ?_ | refine C_label ?_ | refine Q_asn ?_ | refine Q_then_pan ?_ | refine Q_block_pan ?_ | refine Q_scope_pan ?_
              (refine C_region ?_
               <;> (first | refine M_ptr rfl ?_ | refine W_move ?_)
               <;> (first | refine M_int rfl ?_ | refine W_move ?_))
              -- at operation 2: <dst=(some 73) op=(call <callee=(value (func 29)) args=[(tmp 71), (const (int i64 2)), (tmp 72)] argTypes=[41, 3, 3]>) type=0 guard=none>
              have e : numM t a ts = addM t a ts 2 (whileB isDig t a) := by unfold numM; rw [if_neg]; simp only [hbad]; simp
              rw [e]
              refine W_callP (addS w0 _ s a _ t ts 2 hs2 (by omega) hle) rfl ?_ ?_
              · rintro v w2 ⟨rfl, hh⟩
                refine W_nil ?_
                repeat'
                  first
                    | refine Q_then ?_ | refine C_cond_t rfl ?_ | refine C_cond_f rfl ?_ | refine C_seq ?_ | refine C_block ?_ | refine C_skip ?_ | refine C_ret ?_ | refine C_exit ?_
                    | refine Q_then_ret ?_ | refine Q_then_exit ?_ | refine Q_block ?_ | refine Q_block_ret ?_ | refine Q_block_here ?_ | refine Q_block_on rfl ?_ | refine C_scope ?_ | refine C_label ?_ | refine Q_asn ?_ | refine Q_then_pan ?_ | refine Q_block_pan ?_ | refine Q_scope_pan ?_
                exact fin_end0 rfl ⟨rfl, hh⟩
              · intro ch w2 hh
                repeat'
                  first
                    | refine Q_then ?_ | refine C_cond_t rfl ?_ | refine C_cond_f rfl ?_ | refine C_seq ?_ | refine C_block ?_ | refine C_skip ?_ | refine C_ret ?_ | refine C_exit ?_
                    | refine Q_then_ret ?_ | refine Q_then_exit ?_ | refine Q_block ?_ | refine Q_block_ret ?_ | refine Q_block_here ?_ | refine Q_block_on rfl ?_ | refine C_scope ?_ | refine C_label ?_ | refine Q_asn ?_ | refine Q_then_pan ?_ | refine Q_block_pan ?_ | refine Q_scope_pan ?_
                exact fin_pan hh
        · have hbad : numBad t a = false := by
            unfold numBad
            rw [hb2, decide_eq_false b1, decide_eq_false b4]
            simp
          (refine C_region ?_
           <;> (first | refine M_int rfl ?_ | refine W_move ?_)
           <;> (first | refine M_ptr rfl ?_ | refine W_move ?_)
           <;> refine W_nilCheck rfl ?_
           <;> refine W_fieldAddr rfl ?_
           <;> (first | refine W_load rfl (Blk.cell (by assumption) (by rfl)) ?_ | refine W_load rfl (by assumption) ?_)
           <;> refine W_slen rfl ?_
           <;> (refine W_lss rfl rfl (fun hc => ?_) (fun hc => ?_) <;> try (exfalso; omega))
           <;> (first | refine M_bool rfl ?_ | refine W_move ?_)
           <;> (first | refine W_no rfl ?_ | (refine W_yes rfl ?_; (first | refine M_ptr rfl ?_ | refine W_move ?_)))
           <;> (first | refine W_no rfl ?_ | (refine W_yes rfl ?_; refine W_nilCheck rfl ?_))
           <;> (first | refine W_no rfl ?_ | (refine W_yes rfl ?_; refine W_fieldAddr rfl ?_))
           <;> (first | refine W_no rfl ?_ | (refine W_yes rfl ?_; (first | refine W_load rfl (Blk.cell (by assumption) (by rfl)) ?_ | refine W_load rfl (by assumption) ?_)))
           <;> (first | refine W_no rfl ?_ | (refine W_yes rfl ?_; (first | refine M_int rfl ?_ | refine W_move ?_)))
           <;> (first | refine W_no rfl ?_ | (refine W_yes rfl ?_; refine W_sidx rfl rfl (by assumption) ?_)))
          -- at operation 14: <dst=(some 54) op=(call <callee=(value (func 30)) args=[(tmp 53)] argTypes=[5]>) type=4 guard=(some [7, true])>
          (refine W_no rfl ?_
           <;> (first | refine W_no rfl ?_ | (refine W_yes rfl ?_; (first | refine M_bool rfl ?_ | refine W_move ?_)))
           <;> (first | refine W_no rfl ?_ | (refine W_yes rfl ?_; (first | refine M_ptr rfl ?_ | refine W_move ?_)))
           <;> (first | refine W_no rfl ?_ | (refine W_yes rfl ?_; refine W_nilCheck rfl ?_))
           <;> (first | refine W_no rfl ?_ | (refine W_yes rfl ?_; refine W_fieldAddr rfl ?_))
           <;> (first | refine W_no rfl ?_ | (refine W_yes rfl ?_; (first | refine W_load rfl (Blk.cell (by assumption) (by rfl)) ?_ | refine W_load rfl (by assumption) ?_)))
           <;> (first | refine W_no rfl ?_ | (refine W_yes rfl ?_; (first | refine M_int rfl ?_ | refine W_move ?_)))
           <;> (first | refine W_no rfl ?_ | (refine W_yes rfl ?_; refine W_sidx rfl rfl (by assumption) ?_))
           <;> (first | refine W_no rfl ?_ | (refine W_yes rfl ?_; (refine W_eql rfl rfl (fun hc => ?_) (fun hc => ?_) <;> try (exfalso; omega))))
           <;> (first | refine W_no rfl ?_ | (refine W_yes rfl ?_; ((first | refine M_pick_t rfl ?_ | refine M_pick_f rfl ?_); (first | refine M_bool rfl ?_ | refine W_move ?_))))
           <;> ((first | refine M_pick_t rfl ?_ | refine M_pick_f rfl ?_); (first | refine M_bool rfl ?_ | refine W_move ?_))
           <;> refine W_nil ?_)
          repeat'
            first
              | refine Q_then ?_ | refine C_cond_t rfl ?_ | refine C_cond_f rfl ?_ | refine C_seq ?_ | refine C_block ?_ | refine C_skip ?_ | refine C_ret ?_ | refine C_exit ?_
              | refine Q_then_ret ?_ | refine Q_then_exit ?_ | refine Q_block ?_ | refine Q_block_ret ?_ | refine Q_block_here ?_ | refine Q_block_on rfl ?_ | refine C_scope ?_ | refine C_label ?_ | refine Q_asn ?_ | refine Q_then_pan ?_ | refine Q_block_pan ?_ | refine Q_scope_pan ?_
          (refine C_region ?_
           <;> (first | refine M_ptr rfl ?_ | refine W_move ?_)
           <;> (first | refine M_int rfl ?_ | refine W_move ?_))
          -- at operation 2: <dst=(some 73) op=(call <callee=(value (func 29)) args=[(tmp 71), (const (int i64 2)), (tmp 72)] argTypes=[41, 3, 3]>) type=0 guard=none>
          have e : numM t a ts = addM t a ts 2 (whileB isDig t a) := by unfold numM; rw [if_neg]; simp only [hbad]; simp
          rw [e]
          refine W_callP (addS w0 _ s a _ t ts 2 hs2 (by omega) hle) rfl ?_ ?_
          · rintro v w2 ⟨rfl, hh⟩
            refine W_nil ?_
            repeat'
              first
                | refine Q_then ?_ | refine C_cond_t rfl ?_ | refine C_cond_f rfl ?_ | refine C_seq ?_ | refine C_block ?_ | refine C_skip ?_ | refine C_ret ?_ | refine C_exit ?_
                | refine Q_then_ret ?_ | refine Q_then_exit ?_ | refine Q_block ?_ | refine Q_block_ret ?_ | refine Q_block_here ?_ | refine Q_block_on rfl ?_ | refine C_scope ?_ | refine C_label ?_ | refine Q_asn ?_ | refine Q_then_pan ?_ | refine Q_block_pan ?_ | refine Q_scope_pan ?_
            exact fin_end0 rfl ⟨rfl, hh⟩
          · intro ch w2 hh
            repeat'
              first
                | refine Q_then ?_ | refine C_cond_t rfl ?_ | refine C_cond_f rfl ?_ | refine C_seq ?_ | refine C_block ?_ | refine C_skip ?_ | refine C_ret ?_ | refine C_exit ?_
                | refine Q_then_ret ?_ | refine Q_then_exit ?_ | refine Q_block ?_ | refine Q_block_ret ?_ | refine Q_block_here ?_ | refine Q_block_on rfl ?_ | refine C_scope ?_ | refine C_label ?_ | refine Q_asn ?_ | refine Q_then_pan ?_ | refine Q_block_pan ?_ | refine Q_scope_pan ?_
            exact fin_pan hh
    · have hb2 : (decide (1 < whileB isDig t a - a) && decide ((t.getD a 0).toNat = 48)) = false := by simp [b2]
      ((apply D_R rfl rfl; (intro W hW; subst hW; (first | refine M_int rfl ?_ | refine W_move ?_); exact W_nil ⟨rfl, rfl, rfl⟩))
       <;> (refine D_gtr rfl rfl rfl rfl (fun hc => ?_) (fun hc => ?_) <;> try (exfalso; omega))
       <;> (apply D_R rfl rfl; (intro W hW; subst hW; (first | refine M_bool rfl ?_ | refine W_move ?_); exact W_nil ⟨rfl, rfl, rfl⟩))
       <;> (first | refine D_skip rfl rfl rfl rfl ?_ | (apply D_R rfl rfl; (intro W hW; refine W_no rfl ?_; exact W_nil ⟨rfl, rfl, rfl⟩)) | (apply D_R rfl rfl; (intro W hW; subst hW; (refine W_yes rfl ?_; (first | refine M_int rfl ?_ | refine W_move ?_)); exact W_nil ⟨rfl, rfl, rfl⟩)))
       <;> (first | refine D_skip rfl rfl rfl rfl ?_ | (apply D_R rfl rfl; (intro W hW; refine W_no rfl ?_; exact W_nil ⟨rfl, rfl, rfl⟩)) | (refine D_gtr rfl rfl rfl rfl (fun hc => ?_) (fun hc => ?_) <;> try (exfalso; omega)))
       <;> (first | refine D_skip rfl rfl rfl rfl ?_ | (apply D_R rfl rfl; (intro W hW; refine W_no rfl ?_; exact W_nil ⟨rfl, rfl, rfl⟩)) | (apply D_R rfl rfl; (intro W hW; subst hW; (refine W_yes rfl ?_; (first | refine M_bool rfl ?_ | refine W_move ?_)); exact W_nil ⟨rfl, rfl, rfl⟩)))
       <;> (first | refine D_skip rfl rfl rfl rfl ?_ | (apply D_R rfl rfl; (intro W hW; refine W_no rfl ?_; exact W_nil ⟨rfl, rfl, rfl⟩)) | (apply D_R rfl rfl; (intro W hW; subst hW; (refine W_yes rfl ?_; (first | refine M_ptr rfl ?_ | refine W_move ?_)); exact W_nil ⟨rfl, rfl, rfl⟩)))
       <;> (first | refine D_skip rfl rfl rfl rfl ?_ | (apply D_R rfl rfl; (intro W hW; refine W_no rfl ?_; exact W_nil ⟨rfl, rfl, rfl⟩)) | (apply D_R rfl rfl; (intro W hW; subst hW; (refine W_yes rfl ?_; refine W_nilCheck rfl ?_); exact W_nil ⟨rfl, rfl, rfl⟩)))
       <;> (first | refine D_skip rfl rfl rfl rfl ?_ | (apply D_R rfl rfl; (intro W hW; refine W_no rfl ?_; exact W_nil ⟨rfl, rfl, rfl⟩)) | (apply D_R rfl rfl; (intro W hW; subst hW; (refine W_yes rfl ?_; refine W_fieldAddr rfl ?_); exact W_nil ⟨rfl, rfl, rfl⟩)))
       <;> (first | refine D_skip rfl rfl rfl rfl ?_ | (apply D_R rfl rfl; (intro W hW; refine W_no rfl ?_; exact W_nil ⟨rfl, rfl, rfl⟩)) | (apply D_R rfl rfl; (intro W hW; subst hW; (refine W_yes rfl ?_; (first | refine W_load rfl (Blk.cell (by assumption) (by rfl)) ?_ | refine W_load rfl (by assumption) ?_)); exact W_nil ⟨rfl, rfl, rfl⟩)))
       <;> (first | refine D_skip rfl rfl rfl rfl ?_ | (apply D_R rfl rfl; (intro W hW; refine W_no rfl ?_; exact W_nil ⟨rfl, rfl, rfl⟩)) | (apply D_R rfl rfl; (intro W hW; subst hW; (refine W_yes rfl ?_; (first | refine M_ptr rfl ?_ | refine W_move ?_)); exact W_nil ⟨rfl, rfl, rfl⟩)))
       <;> (first | refine D_skip rfl rfl rfl rfl ?_ | (apply D_R rfl rfl; (intro W hW; refine W_no rfl ?_; exact W_nil ⟨rfl, rfl, rfl⟩)) | (apply D_R rfl rfl; (intro W hW; subst hW; (refine W_yes rfl ?_; refine W_nilCheck rfl ?_); exact W_nil ⟨rfl, rfl, rfl⟩)))
       <;> (first | refine D_skip rfl rfl rfl rfl ?_ | (apply D_R rfl rfl; (intro W hW; refine W_no rfl ?_; exact W_nil ⟨rfl, rfl, rfl⟩)) | (apply D_R rfl rfl; (intro W hW; subst hW; (refine W_yes rfl ?_; refine W_fieldAddr rfl ?_); exact W_nil ⟨rfl, rfl, rfl⟩)))
       <;> (first | refine D_skip rfl rfl rfl rfl ?_ | (apply D_R rfl rfl; (intro W hW; refine W_no rfl ?_; exact W_nil ⟨rfl, rfl, rfl⟩)) | (apply D_R rfl rfl; (intro W hW; subst hW; (refine W_yes rfl ?_; (first | refine W_load rfl (Blk.cell (by assumption) (by rfl)) ?_ | refine W_load rfl (by assumption) ?_)); exact W_nil ⟨rfl, rfl, rfl⟩)))
       <;> (first | refine D_skip rfl rfl rfl rfl ?_ | (apply D_R rfl rfl; (intro W hW; refine W_no rfl ?_; exact W_nil ⟨rfl, rfl, rfl⟩)) | (apply D_R rfl rfl; (intro W hW; subst hW; (refine W_yes rfl ?_; refine W_sidx rfl rfl (by assumption) ?_); exact W_nil ⟨rfl, rfl, rfl⟩)))
       <;> (first | refine D_skip rfl rfl rfl rfl ?_ | (apply D_R rfl rfl; (intro W hW; refine W_no rfl ?_; exact W_nil ⟨rfl, rfl, rfl⟩)) | (refine D_eql rfl rfl rfl rfl (fun hc => ?_) (fun hc => ?_) <;> try (exfalso; omega)))
       <;> (first | refine D_skip rfl rfl rfl rfl ?_ | (apply D_R rfl rfl; (intro W hW; refine W_no rfl ?_; exact W_nil ⟨rfl, rfl, rfl⟩)) | (apply D_R rfl rfl; (intro W hW; subst hW; (refine W_yes rfl ?_; ((first | refine M_pick_t rfl ?_ | refine M_pick_f rfl ?_); (first | refine M_bool rfl ?_ | refine W_move ?_))); exact W_nil ⟨rfl, rfl, rfl⟩)))
       <;> (apply D_R rfl rfl; (intro W hW; subst hW; ((first | refine M_pick_t rfl ?_ | refine M_pick_f rfl ?_); (first | refine M_bool rfl ?_ | refine W_move ?_)); exact W_nil ⟨rfl, rfl, rfl⟩))
       <;> refine D_nil ?_)
      repeat'
        first
          | refine Q_then ?_ | refine C_cond_t rfl ?_ | refine C_cond_f rfl ?_ | refine C_seq ?_ | refine C_block ?_ | refine C_skip ?_ | refine C_ret ?_ | refine C_exit ?_
          | refine Q_then_ret ?_ | refine Q_then_exit ?_ | refine Q_block ?_ | refine Q_block_ret ?_ | refine Q_block_here ?_ | refine Q_block_on rfl ?_ | refine C_scope ?_ | refine C_label ?_ | refine Q_asn ?_ | refine Q_then_pan ?_ | refine Q_block_pan ?_ | refine Q_scope_pan ?_
      by_cases b4 : whileB isDig t a < t.length
      · have hc1 : t[whileB isDig t a]? = some t[whileB isDig t a] := List.getElem?_eq_getElem b4
        generalize t[whileB isDig t a] = c1 at hc1
        have hg1 := getD_of hc1
        (refine C_region ?_
         <;> (first | refine M_int rfl ?_ | refine W_move ?_)
         <;> (first | refine M_ptr rfl ?_ | refine W_move ?_)
         <;> refine W_nilCheck rfl ?_
         <;> refine W_fieldAddr rfl ?_
         <;> (first | refine W_load rfl (Blk.cell (by assumption) (by rfl)) ?_ | refine W_load rfl (by assumption) ?_)
         <;> refine W_slen rfl ?_
         <;> (refine W_lss rfl rfl (fun hc => ?_) (fun hc => ?_) <;> try (exfalso; omega))
         <;> (first | refine M_bool rfl ?_ | refine W_move ?_)
         <;> (first | refine W_no rfl ?_ | (refine W_yes rfl ?_; (first | refine M_ptr rfl ?_ | refine W_move ?_)))
         <;> (first | refine W_no rfl ?_ | (refine W_yes rfl ?_; refine W_nilCheck rfl ?_))
         <;> (first | refine W_no rfl ?_ | (refine W_yes rfl ?_; refine W_fieldAddr rfl ?_))
         <;> (first | refine W_no rfl ?_ | (refine W_yes rfl ?_; (first | refine W_load rfl (Blk.cell (by assumption) (by rfl)) ?_ | refine W_load rfl (by assumption) ?_)))
         <;> (first | refine W_no rfl ?_ | (refine W_yes rfl ?_; (first | refine M_int rfl ?_ | refine W_move ?_)))
         <;> (first | refine W_no rfl ?_ | (refine W_yes rfl ?_; refine W_sidx rfl rfl (by assumption) ?_)))
        -- at operation 14: <dst=(some 54) op=(call <callee=(value (func 30)) args=[(tmp 53)] argTypes=[5]>) type=4 guard=(some [7, true])>
        refine W_yes rfl ?_
        refine W_call (let_ok c1 _) rfl ?_
        rintro v w2 ⟨rfl, rfl⟩
        cases hlet : isLet c1 with
        | true =>
          have hbad : numBad t a = true := by unfold numBad; rw [hg1]; simp [b4, hlet]
          ((first | refine W_no rfl ?_ | (refine W_yes rfl ?_; (first | refine M_bool rfl ?_ | refine W_move ?_)))
           <;> (first | refine W_no rfl ?_ | (refine W_yes rfl ?_; (first | refine M_ptr rfl ?_ | refine W_move ?_)))
           <;> (first | refine W_no rfl ?_ | (refine W_yes rfl ?_; refine W_nilCheck rfl ?_))
           <;> (first | refine W_no rfl ?_ | (refine W_yes rfl ?_; refine W_fieldAddr rfl ?_))
           <;> (first | refine W_no rfl ?_ | (refine W_yes rfl ?_; (first | refine W_load rfl (Blk.cell (by assumption) (by rfl)) ?_ | refine W_load rfl (by assumption) ?_)))
           <;> (first | refine W_no rfl ?_ | (refine W_yes rfl ?_; (first | refine M_int rfl ?_ | refine W_move ?_)))
           <;> (first | refine W_no rfl ?_ | (refine W_yes rfl ?_; refine W_sidx rfl rfl (by assumption) ?_))
           <;> (first | refine W_no rfl ?_ | (refine W_yes rfl ?_; (refine W_eql rfl rfl (fun hc => ?_) (fun hc => ?_) <;> try (exfalso; omega))))
           <;> (first | refine W_no rfl ?_ | (refine W_yes rfl ?_; ((first | refine M_pick_t rfl ?_ | refine M_pick_f rfl ?_); (first | refine M_bool rfl ?_ | refine W_move ?_))))
           <;> ((first | refine M_pick_t rfl ?_ | refine M_pick_f rfl ?_); (first | refine M_bool rfl ?_ | refine W_move ?_))
           <;> refine W_nil ?_)
          repeat'
            first
              | refine Q_then ?_ | refine C_cond_t rfl ?_ | refine C_cond_f rfl ?_ | refine C_seq ?_ | refine C_block ?_ | refine C_skip ?_ | refine C_ret ?_ | refine C_exit ?_
              | refine Q_then_ret ?_ | refine Q_then_exit ?_ | refine Q_block ?_ | refine Q_block_ret ?_ | refine Q_block_here ?_ | refine Q_block_on rfl ?_ | refine C_scope ?_ | refine C_label ?_ | refine Q_asn ?_ | refine Q_then_pan ?_ | refine Q_block_pan ?_ | refine Q_scope_pan ?_
          (refine C_region ?_
           <;> (first | refine M_ptr rfl ?_ | refine W_move ?_)
           <;> refine W_nilCheck rfl ?_
           <;> refine W_fieldAddr rfl ?_
           <;> (first | refine W_load rfl (Blk.cell (by assumption) (by rfl)) ?_ | refine W_load rfl (by assumption) ?_)
           <;> refine W_build (by rfl) (by rfl) ?_
           <;> refine W_iface ?_
           <;> refine W_panic rfl ?_)
          repeat'
            first
              | refine Q_then ?_ | refine C_cond_t rfl ?_ | refine C_cond_f rfl ?_ | refine C_seq ?_ | refine C_block ?_ | refine C_skip ?_ | refine C_ret ?_ | refine C_exit ?_
              | refine Q_then_ret ?_ | refine Q_then_exit ?_ | refine Q_block ?_ | refine Q_block_ret ?_ | refine Q_block_here ?_ | refine Q_block_on rfl ?_ | refine C_scope ?_ | refine C_label ?_ | refine Q_asn ?_ | refine Q_then_pan ?_ | refine Q_block_pan ?_ | refine Q_scope_pan ?_
          exact fin_pan ⟨_, _, by unfold numM; rw [if_pos hbad], rfl, hs2.keep⟩
        | false =>
          by_cases b5 : c1.toNat = 95
          · have hbad : numBad t a = true := by unfold numBad; rw [hg1]; simp [b4, b5]
            ((first | refine W_no rfl ?_ | (refine W_yes rfl ?_; (first | refine M_bool rfl ?_ | refine W_move ?_)))
             <;> (first | refine W_no rfl ?_ | (refine W_yes rfl ?_; (first | refine M_ptr rfl ?_ | refine W_move ?_)))
             <;> (first | refine W_no rfl ?_ | (refine W_yes rfl ?_; refine W_nilCheck rfl ?_))
             <;> (first | refine W_no rfl ?_ | (refine W_yes rfl ?_; refine W_fieldAddr rfl ?_))
             <;> (first | refine W_no rfl ?_ | (refine W_yes rfl ?_; (first | refine W_load rfl (Blk.cell (by assumption) (by rfl)) ?_ | refine W_load rfl (by assumption) ?_)))
             <;> (first | refine W_no rfl ?_ | (refine W_yes rfl ?_; (first | refine M_int rfl ?_ | refine W_move ?_)))
             <;> (first | refine W_no rfl ?_ | (refine W_yes rfl ?_; refine W_sidx rfl rfl (by assumption) ?_))
             <;> (first | refine W_no rfl ?_ | (refine W_yes rfl ?_; (refine W_eql rfl rfl (fun hc => ?_) (fun hc => ?_) <;> try (exfalso; omega))))
             <;> (first | refine W_no rfl ?_ | (refine W_yes rfl ?_; ((first | refine M_pick_t rfl ?_ | refine M_pick_f rfl ?_); (first | refine M_bool rfl ?_ | refine W_move ?_))))
             <;> ((first | refine M_pick_t rfl ?_ | refine M_pick_f rfl ?_); (first | refine M_bool rfl ?_ | refine W_move ?_))
             <;> refine W_nil ?_)
            repeat'
              first
                | refine Q_then ?_ | refine C_cond_t rfl ?_ | refine C_cond_f rfl ?_ | refine C_seq ?_ | refine C_block ?_ | refine C_skip ?_ | refine C_ret ?_ | refine C_exit ?_
                | refine Q_then_ret ?_ | refine Q_then_exit ?_ | refine Q_block ?_ | refine Q_block_ret ?_ | refine Q_block_here ?_ | refine Q_block_on rfl ?_ | refine C_scope ?_ | refine C_label ?_ | refine Q_asn ?_ | refine Q_then_pan ?_ | refine Q_block_pan ?_ | refine Q_scope_pan ?_
            (refine C_region ?_
             <;> (first | refine M_ptr rfl ?_ | refine W_move ?_)
             <;> refine W_nilCheck rfl ?_
             <;> refine W_fieldAddr rfl ?_
             <;> (first | refine W_load rfl (Blk.cell (by assumption) (by rfl)) ?_ | refine W_load rfl (by assumption) ?_)
             <;> refine W_build (by rfl) (by rfl) ?_
             <;> refine W_iface ?_
             <;> refine W_panic rfl ?_)
            repeat'
              first
                | refine Q_then ?_ | refine C_cond_t rfl ?_ | refine C_cond_f rfl ?_ | refine C_seq ?_ | refine C_block ?_ | refine C_skip ?_ | refine C_ret ?_ | refine C_exit ?_
                | refine Q_then_ret ?_ | refine Q_then_exit ?_ | refine Q_block ?_ | refine Q_block_ret ?_ | refine Q_block_here ?_ | refine Q_block_on rfl ?_ | refine C_scope ?_ | refine C_label ?_ | refine Q_asn ?_ | refine Q_then_pan ?_ | refine Q_block_pan ?_ | refine Q_scope_pan ?_
            exact fin_pan ⟨_, _, by unfold numM; rw [if_pos hbad], rfl, hs2.keep⟩
          · have hbad : numBad t a = false := by
              unfold numBad
              rw [hg1, hb2, hlet, decide_eq_false b1, decide_eq_false b5]
              simp
            ((first | refine W_no rfl ?_ | (refine W_yes rfl ?_; (first | refine M_bool rfl ?_ | refine W_move ?_)))
             <;> (first | refine W_no rfl ?_ | (refine W_yes rfl ?_; (first | refine M_ptr rfl ?_ | refine W_move ?_)))
             <;> (first | refine W_no rfl ?_ | (refine W_yes rfl ?_; refine W_nilCheck rfl ?_))
             <;> (first | refine W_no rfl ?_ | (refine W_yes rfl ?_; refine W_fieldAddr rfl ?_))
             <;> (first | refine W_no rfl ?_ | (refine W_yes rfl ?_; (first | refine W_load rfl (Blk.cell (by assumption) (by rfl)) ?_ | refine W_load rfl (by assumption) ?_)))
             <;> (first | refine W_no rfl ?_ | (refine W_yes rfl ?_; (first | refine M_int rfl ?_ | refine W_move ?_)))
             <;> (first | refine W_no rfl ?_ | (refine W_yes rfl ?_; refine W_sidx rfl rfl (by assumption) ?_))
             <;> (first | refine W_no rfl ?_ | (refine W_yes rfl ?_; (refine W_eql rfl rfl (fun hc => ?_) (fun hc => ?_) <;> try (exfalso; omega))))
             <;> (first | refine W_no rfl ?_ | (refine W_yes rfl ?_; ((first | refine M_pick_t rfl ?_ | refine M_pick_f rfl ?_); (first | refine M_bool rfl ?_ | refine W_move ?_))))
             <;> ((first | refine M_pick_t rfl ?_ | refine M_pick_f rfl ?_); (first | refine M_bool rfl ?_ | refine W_move ?_))
             <;> refine W_nil ?_)
            repeat'
              first
                | refine Q_then ?_ | refine C_cond_t rfl ?_ | refine C_cond_f rfl ?_ | refine C_seq ?_ | refine C_block ?_ | refine C_skip ?_ | refine C_ret ?_ | refine C_exit ?_
                | refine Q_then_ret ?_ | refine Q_then_exit ?_ | refine Q_block ?_ | refine Q_block_ret ?_ | refine Q_block_here ?_ | refine Q_block_on rfl ?_ | refine C_scope ?_ | refine C_label ?_ | refine Q_asn ?_ | refine Q_then_pan ?_ | refine Q_block_pan ?_ | refine Q_scope_pan ?_
            (refine C_region ?_
             <;> (first | refine M_ptr rfl ?_ | refine W_move ?_)
             <;> (first | refine M_int rfl ?_ | refine W_move ?_))
            -- at operation 2: <dst=(some 73) op=(call <callee=(value (func 29)) args=[(tmp 71), (const (int i64 2)), (tmp 72)] argTypes=[41, 3, 3]>) type=0 guard=none>
            have e : numM t a ts = addM t a ts 2 (whileB isDig t a) := by unfold numM; rw [if_neg]; simp only [hbad]; simp
            rw [e]
            refine W_callP (addS w0 _ s a _ t ts 2 hs2 (by omega) hle) rfl ?_ ?_
            · rintro v w2 ⟨rfl, hh⟩
              refine W_nil ?_
              repeat'
                first
                  | refine Q_then ?_ | refine C_cond_t rfl ?_ | refine C_cond_f rfl ?_ | refine C_seq ?_ | refine C_block ?_ | refine C_skip ?_ | refine C_ret ?_ | refine C_exit ?_
                  | refine Q_then_ret ?_ | refine Q_then_exit ?_ | refine Q_block ?_ | refine Q_block_ret ?_ | refine Q_block_here ?_ | refine Q_block_on rfl ?_ | refine C_scope ?_ | refine C_label ?_ | refine Q_asn ?_ | refine Q_then_pan ?_ | refine Q_block_pan ?_ | refine Q_scope_pan ?_
              exact fin_end0 rfl ⟨rfl, hh⟩
            · intro ch w2 hh
              repeat'
                first
                  | refine Q_then ?_ | refine C_cond_t rfl ?_ | refine C_cond_f rfl ?_ | refine C_seq ?_ | refine C_block ?_ | refine C_skip ?_ | refine C_ret ?_ | refine C_exit ?_
                  | refine Q_then_ret ?_ | refine Q_then_exit ?_ | refine Q_block ?_ | refine Q_block_ret ?_ | refine Q_block_here ?_ | refine Q_block_on rfl ?_ | refine C_scope ?_ | refine C_label ?_ | refine Q_asn ?_ | refine Q_then_pan ?_ | refine Q_block_pan ?_ | refine Q_scope_pan ?_
              exact fin_pan hh
      · have hbad : numBad t a = false := by
          unfold numBad
          rw [hb2, decide_eq_false b1, decide_eq_false b4]
          simp
        (refine C_region ?_
         <;> (first | refine M_int rfl ?_ | refine W_move ?_)
         <;> (first | refine M_ptr rfl ?_ | refine W_move ?_)
         <;> refine W_nilCheck rfl ?_
         <;> refine W_fieldAddr rfl ?_
         <;> (first | refine W_load rfl (Blk.cell (by assumption) (by rfl)) ?_ | refine W_load rfl (by assumption) ?_)
         <;> refine W_slen rfl ?_
         <;> (refine W_lss rfl rfl (fun hc => ?_) (fun hc => ?_) <;> try (exfalso; omega))
         <;> (first | refine M_bool rfl ?_ | refine W_move ?_)
         <;> (first | refine W_no rfl ?_ | (refine W_yes rfl ?_; (first | refine M_ptr rfl ?_ | refine W_move ?_)))
         <;> (first | refine W_no rfl ?_ | (refine W_yes rfl ?_; refine W_nilCheck rfl ?_))
         <;> (first | refine W_no rfl ?_ | (refine W_yes rfl ?_; refine W_fieldAddr rfl ?_))
         <;> (first | refine W_no rfl ?_ | (refine W_yes rfl ?_; (first | refine W_load rfl (Blk.cell (by assumption) (by rfl)) ?_ | refine W_load rfl (by assumption) ?_)))
         <;> (first | refine W_no rfl ?_ | (refine W_yes rfl ?_; (first | refine M_int rfl ?_ | refine W_move ?_)))
         <;> (first | refine W_no rfl ?_ | (refine W_yes rfl ?_; refine W_sidx rfl rfl (by assumption) ?_)))
        -- at operation 14: <dst=(some 54) op=(call <callee=(value (func 30)) args=[(tmp 53)] argTypes=[5]>) type=4 guard=(some [7, true])>
        (refine W_no rfl ?_
         <;> (first | refine W_no rfl ?_ | (refine W_yes rfl ?_; (first | refine M_bool rfl ?_ | refine W_move ?_)))
         <;> (first | refine W_no rfl ?_ | (refine W_yes rfl ?_; (first | refine M_ptr rfl ?_ | refine W_move ?_)))
         <;> (first | refine W_no rfl ?_ | (refine W_yes rfl ?_; refine W_nilCheck rfl ?_))
         <;> (first | refine W_no rfl ?_ | (refine W_yes rfl ?_; refine W_fieldAddr rfl ?_))
         <;> (first | refine W_no rfl ?_ | (refine W_yes rfl ?_; (first | refine W_load rfl (Blk.cell (by assumption) (by rfl)) ?_ | refine W_load rfl (by assumption) ?_)))
         <;> (first | refine W_no rfl ?_ | (refine W_yes rfl ?_; (first | refine M_int rfl ?_ | refine W_move ?_)))
         <;> (first | refine W_no rfl ?_ | (refine W_yes rfl ?_; refine W_sidx rfl rfl (by assumption) ?_))
         <;> (first | refine W_no rfl ?_ | (refine W_yes rfl ?_; (refine W_eql rfl rfl (fun hc => ?_) (fun hc => ?_) <;> try (exfalso; omega))))
         <;> (first | refine W_no rfl ?_ | (refine W_yes rfl ?_; ((first | refine M_pick_t rfl ?_ | refine M_pick_f rfl ?_); (first | refine M_bool rfl ?_ | refine W_move ?_))))
         <;> ((first | refine M_pick_t rfl ?_ | refine M_pick_f rfl ?_); (first | refine M_bool rfl ?_ | refine W_move ?_))
         <;> refine W_nil ?_)
        repeat'
          first
            | refine Q_then ?_ | refine C_cond_t rfl ?_ | refine C_cond_f rfl ?_ | refine C_seq ?_ | refine C_block ?_ | refine C_skip ?_ | refine C_ret ?_ | refine C_exit ?_
            | refine Q_then_ret ?_ | refine Q_then_exit ?_ | refine Q_block ?_ | refine Q_block_ret ?_ | refine Q_block_here ?_ | refine Q_block_on rfl ?_ | refine C_scope ?_ | refine C_label ?_ | refine Q_asn ?_ | refine Q_then_pan ?_ | refine Q_block_pan ?_ | refine Q_scope_pan ?_
        (refine C_region ?_
         <;> (first | refine M_ptr rfl ?_ | refine W_move ?_)
         <;> (first | refine M_int rfl ?_ | refine W_move ?_))
        -- at operation 2: <dst=(some 73) op=(call <callee=(value (func 29)) args=[(tmp 71), (const (int i64 2)), (tmp 72)] argTypes=[41, 3, 3]>) type=0 guard=none>
        have e : numM t a ts = addM t a ts 2 (whileB isDig t a) := by unfold numM; rw [if_neg]; simp only [hbad]; simp
        rw [e]
        refine W_callP (addS w0 _ s a _ t ts 2 hs2 (by omega) hle) rfl ?_ ?_
        · rintro v w2 ⟨rfl, hh⟩
          refine W_nil ?_
          repeat'
            first
              | refine Q_then ?_ | refine C_cond_t rfl ?_ | refine C_cond_f rfl ?_ | refine C_seq ?_ | refine C_block ?_ | refine C_skip ?_ | refine C_ret ?_ | refine C_exit ?_
              | refine Q_then_ret ?_ | refine Q_then_exit ?_ | refine Q_block ?_ | refine Q_block_ret ?_ | refine Q_block_here ?_ | refine Q_block_on rfl ?_ | refine C_scope ?_ | refine C_label ?_ | refine Q_asn ?_ | refine Q_then_pan ?_ | refine Q_block_pan ?_ | refine Q_scope_pan ?_
          exact fin_end0 rfl ⟨rfl, hh⟩
        · intro ch w2 hh
          repeat'
            first
              | refine Q_then ?_ | refine C_cond_t rfl ?_ | refine C_cond_f rfl ?_ | refine C_seq ?_ | refine C_block ?_ | refine C_skip ?_ | refine C_ret ?_ | refine C_exit ?_
              | refine Q_then_ret ?_ | refine Q_then_exit ?_ | refine Q_block ?_ | refine Q_block_ret ?_ | refine Q_block_here ?_ | refine Q_block_on rfl ?_ | refine C_scope ?_ | refine C_label ?_ | refine Q_asn ?_ | refine Q_then_pan ?_ | refine Q_block_pan ?_ | refine Q_scope_pan ?_
          exact fin_pan hh
end Go.Proofs.YteonolnfgppagaaDoor
