/- The lexer: blanks, comments, names, numbers, symbols. Conditions: none. -/
import Derived.Test.YteonolnfgppagaaDoorX2
namespace Go.Proofs.YteonolnfgppagaaDoor
open Go.RowKit
set_option linter.unusedVariables false

abbrev Res := Except (Int × Nat) (Nat × List Tok)
/-- a scanner's call: it goes on in this state, or panics with this failure -/
def FnS (g : FuncId) (args : List Value) (w w0 : World) (s : Nat) (t : List UInt8) (r : Res) : Prop :=
  FnP Tryd.prog g args w (fun v w' => v = .tuple #[] ∧ ∃ a ts, r = .ok (a, ts) ∧ St w0 w' s t a ts) (fun ch w' => ∃ e p, r = .error (e, p) ∧ ch = fail e p ∧ Keep [s] w0 w')

def addM (t : List UInt8) (a : Nat) (ts : List Tok) (k : Int) (n : Nat) : Res := if ts.length = 2000 then .error (2, a) else .ok (n, ts ++ [⟨k, (t.take n).drop a, a⟩])
theorem addS (w0 w : World) (s a n : Nat) (t : List UInt8) (ts : List Tok) (k : Int) (h : St w0 w s t a ts) (h1 : a ≤ n) (h2 : n ≤ t.length) : FnS 29 [pt s, .int .i64 k, .int .i64 (n : Int)] w w0 s t (addM t a ts k n) := by
  refine FnP.mono (add_ok w0 w s a n t ts k h h1 h2) ?_ ?_
  · rintro v w' ⟨rfl, hl, h'⟩
    exact ⟨rfl, _, _, by unfold addM; rw [if_neg (by omega)], h'⟩
  · rintro ch w' ⟨hl, rfl, h'⟩
    exact ⟨_, _, by unfold addM; rw [if_pos hl], rfl, h'⟩

def blankM (a : Nat) (ts : List Tok) : Res := .ok (a + 1, ts)
theorem blank_ok (w0 w : World) (s a : Nat) (t : List UInt8) (ts : List Tok) (h : St w0 w s t a ts) (h1 : a < t.length) : FnS 18 [pt s] w w0 s t (blankM a ts) := by
  obtain ⟨hk, hs, hl, ha, hn, tv, hb, ho⟩ := h
  refine fnP_of_wc Tryd.func18 rfl Tryd.ntmps18 (Nat.le_of_ble_eq_true rfl) (by kernel_rfl) ?_
  repeat'
    first
      | refine Q_then ?_ | refine C_cond_t rfl ?_ | refine C_cond_f rfl ?_ | refine C_seq ?_ | refine C_block ?_ | refine C_skip ?_ | refine C_ret ?_ | refine C_exit ?_
      | refine Q_then_ret ?_ | refine Q_then_exit ?_ | refine Q_block ?_ | refine Q_block_ret ?_ | refine Q_block_here ?_ | refine Q_block_on rfl ?_ | refine C_scope ?_ | refine C_label ?_ | refine Q_asn ?_ | refine Q_then_pan ?_ | refine Q_block_pan ?_ | refine Q_scope_pan ?_
  (refine C_region ?_
   <;> (first | refine M_ptr rfl ?_ | refine W_move ?_)
   <;> refine W_nilCheck rfl ?_
   <;> refine W_fieldAddr rfl ?_
   <;> (first | refine W_load rfl (Blk.cell (by assumption) (by rfl)) ?_ | refine W_load rfl (by assumption) ?_)
   <;> refine W_add rfl rfl (by first | exact inR_i64 (by omega) (by omega) | exact inR_u8 (by omega) (by omega) | exact inR_u16 (by omega) (by omega)) ?_
   <;> refine W_nilCheck rfl ?_
   <;> refine W_fieldAddr rfl ?_)
  -- at operation 7: <dst=none op=(store 3 (tmp 8) (tmp 6)) type=0 guard=none>
  refine W_store rfl rfl rfl hb (by simp) (fun w5 p5 => ?_)
  have hb5 := p5.blk
  have o5 := ownsRow_keep ho p5.keep fun g hg => by have := (own_in ho hg).1; simp; omega
  have k5 : Keep [s] w0 w5 := hk.trans p5.keep fun x hx _ => hx
  refine W_nil ?_
  repeat'
    first
      | refine Q_then ?_ | refine C_cond_t rfl ?_ | refine C_cond_f rfl ?_ | refine C_seq ?_ | refine C_block ?_ | refine C_skip ?_ | refine C_ret ?_ | refine C_exit ?_
      | refine Q_then_ret ?_ | refine Q_then_exit ?_ | refine Q_block ?_ | refine Q_block_ret ?_ | refine Q_block_here ?_ | refine Q_block_on rfl ?_ | refine C_scope ?_ | refine C_label ?_ | refine Q_asn ?_ | refine Q_then_pan ?_ | refine Q_block_pan ?_ | refine Q_scope_pan ?_
  refine fin_end0 rfl ⟨rfl, _, _, rfl, ⟨k5, hs, hl, by omega, hn, tv, ?_, o5⟩⟩
  have e : ((a : Int) + 1) = ((a + 1 : Nat) : Int) := by omega
  exact e ▸ hb5

def commM (t : List UInt8) (a : Nat) (ts : List Tok) : Res := .ok (whileB inComm t a, ts)
theorem comment_ok (w0 w : World) (s a : Nat) (t : List UInt8) (ts : List Tok) (h : St w0 w s t a ts) : FnS 19 [pt s] w w0 s t (commM t a ts) := by
  obtain ⟨hk, hs, hl, ha, hn, tv, hb, ho⟩ := h
  refine fnP_of_wc Tryd.func19 rfl Tryd.ntmps19 (Nat.le_of_ble_eq_true rfl) (by kernel_rfl) ?_
  repeat'
    first
      | refine Q_then ?_ | refine C_cond_t rfl ?_ | refine C_cond_f rfl ?_ | refine C_seq ?_ | refine C_block ?_ | refine C_skip ?_ | refine C_ret ?_ | refine C_exit ?_
      | refine Q_then_ret ?_ | refine Q_then_exit ?_ | refine Q_block ?_ | refine Q_block_ret ?_ | refine Q_block_here ?_ | refine Q_block_on rfl ?_ | refine C_scope ?_ | refine C_label ?_ | refine Q_asn ?_ | refine Q_then_pan ?_ | refine Q_block_pan ?_ | refine Q_scope_pan ?_
  (refine C_region ?_
   <;> (first | refine M_ptr rfl ?_ | refine W_move ?_)
   <;> (first | refine M_ptr rfl ?_ | refine W_move ?_)
   <;> (first | refine M_ptr rfl ?_ | refine W_move ?_)
   <;> refine W_nilCheck rfl ?_
   <;> refine W_fieldAddr rfl ?_
   <;> (first | refine W_load rfl (Blk.cell (by assumption) (by rfl)) ?_ | refine W_load rfl (by assumption) ?_))
  -- at operation 6: <dst=(some 8) op=(call <callee=(value (func 24)) args=[(tmp 3), (tmp 7), (func 25)] argTypes=[41, 3, 50]>) type=3 guard=none>
  refine W_call (while_ok comm_ok w s a t _ _ hb ha hl) rfl ?_
  rintro v w' ⟨rfl, rfl⟩
  (refine W_nilCheck rfl ?_
   <;> refine W_fieldAddr rfl ?_)
  -- at operation 9: <dst=none op=(store 3 (tmp 10) (tmp 8)) type=0 guard=none>
  refine W_store rfl rfl rfl hb (by simp) (fun w5 p5 => ?_)
  have hb5 := p5.blk
  have o5 := ownsRow_keep ho p5.keep fun g hg => by have := (own_in ho hg).1; simp; omega
  have k5 : Keep [s] w0 w5 := hk.trans p5.keep fun x hx _ => hx
  refine W_nil ?_
  repeat'
    first
      | refine Q_then ?_ | refine C_cond_t rfl ?_ | refine C_cond_f rfl ?_ | refine C_seq ?_ | refine C_block ?_ | refine C_skip ?_ | refine C_ret ?_ | refine C_exit ?_
      | refine Q_then_ret ?_ | refine Q_then_exit ?_ | refine Q_block ?_ | refine Q_block_ret ?_ | refine Q_block_here ?_ | refine Q_block_on rfl ?_ | refine C_scope ?_ | refine C_label ?_ | refine Q_asn ?_ | refine Q_then_pan ?_ | refine Q_block_pan ?_ | refine Q_scope_pan ?_
  exact fin_end0 rfl ⟨rfl, _, _, rfl, ⟨k5, hs, hl, whileB_le ha, hn, tv, hb5, o5⟩⟩

def nameM (t : List UInt8) (a : Nat) (ts : List Tok) : Res := if 20 < whileB inName t (a + 1) - a then .error (40, a) else addM t a ts 1 (whileB inName t (a + 1))
theorem scanName_ok (w0 w : World) (s a : Nat) (t : List UInt8) (ts : List Tok) (h : St w0 w s t a ts) (h1 : a < t.length) : FnS 20 [pt s] w w0 s t (nameM t a ts) := by
  obtain ⟨hk, hs, hl, ha, hn, tv, hb, ho⟩ := id h
  have hge := whileB_ge inName t (a + 1)
  have hle := whileB_le (p := inName) (t := t) (a := a + 1) (by omega)
  refine fnP_of_wc Tryd.func20 rfl Tryd.ntmps20 (Nat.le_of_ble_eq_true rfl) (by kernel_rfl) ?_
  repeat'
    first
      | refine Q_then ?_ | refine C_cond_t rfl ?_ | refine C_cond_f rfl ?_ | refine C_seq ?_ | refine C_block ?_ | refine C_skip ?_ | refine C_ret ?_ | refine C_exit ?_
      | refine Q_then_ret ?_ | refine Q_then_exit ?_ | refine Q_block ?_ | refine Q_block_ret ?_ | refine Q_block_here ?_ | refine Q_block_on rfl ?_ | refine C_scope ?_ | refine C_label ?_ | refine Q_asn ?_ | refine Q_then_pan ?_ | refine Q_block_pan ?_ | refine Q_scope_pan ?_
  (refine C_region ?_
   <;> (first | refine M_ptr rfl ?_ | refine W_move ?_)
   <;> (first | refine M_ptr rfl ?_ | refine W_move ?_)
   <;> refine W_nilCheck rfl ?_
   <;> refine W_fieldAddr rfl ?_
   <;> (first | refine W_load rfl (Blk.cell (by assumption) (by rfl)) ?_ | refine W_load rfl (by assumption) ?_)
   <;> refine W_add rfl rfl (by first | exact inR_i64 (by omega) (by omega) | exact inR_u8 (by omega) (by omega) | exact inR_u16 (by omega) (by omega)) ?_)
  -- at operation 6: <dst=(some 9) op=(call <callee=(value (func 24)) args=[(tmp 3), (tmp 8), (func 26)] argTypes=[41, 3, 50]>) type=3 guard=none>
  refine W_call (while_ok name_ok w s (a + 1) t _ _ hb (by omega) hl) (by rw [Int.natCast_add]; rfl) ?_
  rintro v w' ⟨rfl, rfl⟩
  ((refine M_assign ?_; (first | refine M_int rfl ?_ | refine W_move ?_))
   <;> refine W_nil ?_)
  repeat'
    first
      | refine Q_then ?_ | refine C_cond_t rfl ?_ | refine C_cond_f rfl ?_ | refine C_seq ?_ | refine C_block ?_ | refine C_skip ?_ | refine C_ret ?_ | refine C_exit ?_
      | refine Q_then_ret ?_ | refine Q_then_exit ?_ | refine Q_block ?_ | refine Q_block_ret ?_ | refine Q_block_here ?_ | refine Q_block_on rfl ?_ | refine C_scope ?_ | refine C_label ?_ | refine Q_asn ?_ | refine Q_then_pan ?_ | refine Q_block_pan ?_ | refine Q_scope_pan ?_
  (refine C_region ?_
   <;> (first | refine M_int rfl ?_ | refine W_move ?_)
   <;> (first | refine M_ptr rfl ?_ | refine W_move ?_)
   <;> refine W_nilCheck rfl ?_
   <;> refine W_fieldAddr rfl ?_
   <;> (first | refine W_load rfl (Blk.cell (by assumption) (by rfl)) ?_ | refine W_load rfl (by assumption) ?_)
   <;> refine W_sub rfl rfl (by first | exact inR_i64 (by omega) (by omega) | exact inR_u8 (by omega) (by omega) | exact inR_u16 (by omega) (by omega)) ?_
   <;> (refine W_gtr rfl rfl (fun hc => ?_) (fun hc => ?_) <;> try (exfalso; omega))
   <;> refine W_nil ?_)
  · repeat'
      first
        | refine Q_then ?_ | refine C_cond_t rfl ?_ | refine C_cond_f rfl ?_ | refine C_seq ?_ | refine C_block ?_ | refine C_skip ?_ | refine C_ret ?_ | refine C_exit ?_
        | refine Q_then_ret ?_ | refine Q_then_exit ?_ | refine Q_block ?_ | refine Q_block_ret ?_ | refine Q_block_here ?_ | refine Q_block_on rfl ?_ | refine C_scope ?_ | refine C_label ?_ | refine Q_asn ?_ | refine Q_then_pan ?_ | refine Q_block_pan ?_ | refine Q_scope_pan ?_
    (refine C_region ?_
     <;> (first | refine M_ptr rfl ?_ | refine W_move ?_)
     <;> refine W_nilCheck rfl ?_
     <;> refine W_fieldAddr rfl ?_
     <;> (first | refine W_load rfl (Blk.cell (by assumption) (by rfl)) ?_ | refine W_load rfl (by assumption) ?_)
     <;> refine W_build (by rfl) (by rfl) ?_
     <;> refine W_iface ?_
     <;> refine W_panic rfl ?_)
    repeat'
      first
        | refine Q_then ?_ | refine C_cond_t rfl ?_ | refine C_cond_f rfl ?_ | refine C_seq ?_ | refine C_block ?_ | refine C_skip ?_ | refine C_ret ?_ | refine C_exit ?_
        | refine Q_then_ret ?_ | refine Q_then_exit ?_ | refine Q_block ?_ | refine Q_block_ret ?_ | refine Q_block_here ?_ | refine Q_block_on rfl ?_ | refine C_scope ?_ | refine C_label ?_ | refine Q_asn ?_ | refine Q_then_pan ?_ | refine Q_block_pan ?_ | refine Q_scope_pan ?_
    exact fin_pan ⟨_, _, by unfold nameM; rw [if_pos (by omega)], rfl, hk⟩
  · repeat'
      first
        | refine Q_then ?_ | refine C_cond_t rfl ?_ | refine C_cond_f rfl ?_ | refine C_seq ?_ | refine C_block ?_ | refine C_skip ?_ | refine C_ret ?_ | refine C_exit ?_
        | refine Q_then_ret ?_ | refine Q_then_exit ?_ | refine Q_block ?_ | refine Q_block_ret ?_ | refine Q_block_here ?_ | refine Q_block_on rfl ?_ | refine C_scope ?_ | refine C_label ?_ | refine Q_asn ?_ | refine Q_then_pan ?_ | refine Q_block_pan ?_ | refine Q_scope_pan ?_
    (refine C_region ?_
     <;> (first | refine M_ptr rfl ?_ | refine W_move ?_)
     <;> (first | refine M_int rfl ?_ | refine W_move ?_))
    -- at operation 2: <dst=(some 25) op=(call <callee=(value (func 29)) args=[(tmp 23), (const (int i64 1)), (tmp 24)] argTypes=[41, 3, 3]>) type=0 guard=none>
    have e : nameM t a ts = addM t a ts 1 (whileB inName t (a + 1)) := by unfold nameM; rw [if_neg (by omega)]
    rw [e]
    refine W_callP (addS w0 w' s a _ t ts 1 h (by omega) hle) rfl ?_ ?_
    · rintro v w2 ⟨rfl, hh⟩
      refine W_nil ?_
      repeat'
        first
          | refine Q_then ?_ | refine C_cond_t rfl ?_ | refine C_cond_f rfl ?_ | refine C_seq ?_ | refine C_block ?_ | refine C_skip ?_ | refine C_ret ?_ | refine C_exit ?_
          | refine Q_then_ret ?_ | refine Q_then_exit ?_ | refine Q_block ?_ | refine Q_block_ret ?_ | refine Q_block_here ?_ | refine Q_block_on rfl ?_ | refine C_scope ?_ | refine C_label ?_ | refine Q_asn ?_ | refine Q_then_pan ?_ | refine Q_block_pan ?_ | refine Q_scope_pan ?_
      exact fin_end0 rfl ⟨rfl, hh⟩
    · intro ch w2 hh
      repeat'
        first
          | refine Q_then ?_ | refine C_cond_t rfl ?_ | refine C_cond_f rfl ?_ | refine C_seq ?_ | refine C_block ?_ | refine C_skip ?_ | refine C_ret ?_ | refine C_exit ?_
          | refine Q_then_ret ?_ | refine Q_then_exit ?_ | refine Q_block ?_ | refine Q_block_ret ?_ | refine Q_block_here ?_ | refine Q_block_on rfl ?_ | refine C_scope ?_ | refine C_label ?_ | refine Q_asn ?_ | refine Q_then_pan ?_ | refine Q_block_pan ?_ | refine Q_scope_pan ?_
      exact fin_pan hh
end Go.Proofs.YteonolnfgppagaaDoor
