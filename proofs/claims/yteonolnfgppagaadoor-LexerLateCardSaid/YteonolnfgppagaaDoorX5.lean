/- The lexer: symbols, and the table of kinds. Conditions: none. -/
import Derived.Test.YteonolnfgppagaaDoorX4
namespace Go.Proofs.YteonolnfgppagaaDoor
open Go.RowKit
set_option linter.unusedVariables false

def symsL : List (List UInt8) := [[45, 62], [33, 61], [40], [41], [123], [125], [91], [93], [44], [59], [58], [61], [33], [38], [124]]
def spansL : List (Nat × Nat × Nat) := [(32, 32, 0), (9, 10, 0), (13, 13, 0), (37, 37, 1), (97, 122, 2), (65, 90, 2), (48, 57, 3), (40, 41, 4), (123, 125, 4), (91, 91, 4), (93, 93, 4), (44, 45, 4), (58, 59, 4), (61, 61, 4), (33, 33, 4), (38, 38, 4)]
def symC : List Value := symsL.map strV
def spanC1 (p : Nat × Nat × Nat) : List Value := [.int .u8 (p.1 : Int), .int .u8 (p.2.1 : Int), .int .i64 (p.2.2 : Int)]
def spanC : List Value := spansL.flatMap spanC1
/-- what the package's variables hold -/
structure GV (w : World) : Prop where
  spans : Cells w 0 0 spanC
  syms : Cells w 1 0 symC
theorem GV.keep {X : List Nat} {w w' : World} (h : GV w) (k : Keep X w w') (h0 : 0 ∉ X) (h1 : 1 ∉ X) : GV w' := ⟨h.spans.keep k h0, h.syms.keep k h1⟩
theorem GV.ext {w w' : World} (h : GV w) (k : Ext w w') : GV w' := h.keep k (by simp) (by simp)

def symM (t : List UInt8) (a : Nat) (ts : List Tok) : Res :=
  match symsL.find? (hasPre (t.drop a)) with
  | some y => addM t a ts 3 (a + y.length)
  | none => .error (40, a)

theorem find_step {α : Type} {p : α → Bool} {l : List α} {k : Nat} {y : α} (h : l[k]? = some y) : (l.drop k).find? p = if p y = true then some y else (l.drop (k + 1)).find? p := by
  obtain ⟨h1, h2⟩ := List.getElem?_eq_some_iff.1 h
  rw [List.drop_eq_getElem_cons h1, h2, List.find?_cons]
  cases p y <;> rfl

theorem symbol_ok (w0 w : World) (s a : Nat) (t : List UInt8) (ts : List Tok) (h : St w0 w s t a ts) (h1 : a < t.length) (hG : GV w0) (hs2 : 2 ≤ s) : FnS 22 [pt s] w w0 s t (symM t a ts) := by
  have hG' : GV w := hG.keep h.keep (by simp; omega) (by simp; omega)
  refine fnP_of_wc Tryd.func22 rfl Tryd.ntmps22 (Nat.le_of_ble_eq_true rfl) (by kernel_rfl) ?_
  repeat'
    first
      | refine Q_then ?_ | refine C_cond_t rfl ?_ | refine C_cond_f rfl ?_ | refine C_seq ?_ | refine C_block ?_ | refine C_skip ?_ | refine C_ret ?_ | refine C_exit ?_
      | refine Q_then_ret ?_ | refine Q_then_exit ?_ | refine Q_block ?_ | refine Q_block_ret ?_ | refine Q_block_here ?_ | refine Q_block_on rfl ?_ | refine C_scope ?_ | refine C_label ?_ | refine Q_asn ?_ | refine Q_then_pan ?_ | refine Q_block_pan ?_ | refine Q_scope_pan ?_
  (refine C_region ?_; refine W_load_agg rfl rfl hG'.syms ?_; refine M_int rfl ?_; refine W_nil ?_)
  repeat'
    first
      | refine Q_then ?_ | refine C_cond_t rfl ?_ | refine C_cond_f rfl ?_ | refine C_seq ?_ | refine C_block ?_ | refine C_skip ?_ | refine C_ret ?_ | refine C_exit ?_
      | refine Q_then_ret ?_ | refine Q_then_exit ?_ | refine Q_block ?_ | refine Q_block_ret ?_ | refine Q_block_here ?_ | refine Q_block_on rfl ?_ | refine C_scope ?_ | refine C_label ?_ | refine Q_asn ?_ | refine Q_then_pan ?_ | refine Q_block_pan ?_ | refine Q_scope_pan ?_
  refine C_loop (α := Nat) (fun k => [(0, pt s), (4, .agg symC.toArray), (5, .int .i64 (k : Int))]) (fun k w1 => k ≤ 15 ∧ Ext w w1 ∧ symsL.find? (hasPre (t.drop a)) = (symsL.drop k).find? (hasPre (t.drop a))) (fun k => 15 - k) 0 ⟨rfl, rfl, rfl, trivial⟩ ⟨by omega, Ext.refl _, rfl⟩ ?_
  rintro k w1 f' ⟨hk, hw, hf⟩
  have h' := h.ext hw
  repeat'
    first
      | refine Q_then ?_ | refine C_cond_t rfl ?_ | refine C_cond_f rfl ?_ | refine C_seq ?_ | refine C_block ?_ | refine C_skip ?_ | refine C_ret ?_ | refine C_exit ?_
      | refine Q_then_ret ?_ | refine Q_then_exit ?_ | refine Q_block ?_ | refine Q_block_ret ?_ | refine Q_block_here ?_ | refine Q_block_on rfl ?_ | refine C_scope ?_ | refine C_label ?_ | refine Q_asn ?_ | refine Q_then_pan ?_ | refine Q_block_pan ?_ | refine Q_scope_pan ?_
  by_cases hlt : k < 15
  · have hy : symsL[k]? = some symsL[k] := List.getElem?_eq_getElem hlt
    generalize symsL[k] = y at hy
    have hyc : symC[k]? = some (strV y) := by unfold symC; rw [List.getElem?_map, hy]; rfl
    rw [find_step hy] at hf
    (refine C_region ?_
     <;> (refine W_lss rfl rfl (fun hc => ?_) (fun hc => ?_) <;> try (exfalso; omega))
     <;> refine W_nil ?_)
    repeat'
      first
        | refine Q_then ?_ | refine C_cond_t rfl ?_ | refine C_cond_f rfl ?_ | refine C_seq ?_ | refine C_block ?_ | refine C_skip ?_ | refine C_ret ?_ | refine C_exit ?_
        | refine Q_then_ret ?_ | refine Q_then_exit ?_ | refine Q_block ?_ | refine Q_block_ret ?_ | refine Q_block_here ?_ | refine Q_block_on rfl ?_ | refine C_scope ?_ | refine C_label ?_ | refine Q_asn ?_ | refine Q_then_pan ?_ | refine Q_block_pan ?_ | refine Q_scope_pan ?_
    (refine C_region ?_; refine W_vidx1 rfl rfl hlt hyc ?_; refine M_assign ?_; refine M_str rfl ?_; refine W_nil ?_)
    repeat'
      first
        | refine Q_then ?_ | refine C_cond_t rfl ?_ | refine C_cond_f rfl ?_ | refine C_seq ?_ | refine C_block ?_ | refine C_skip ?_ | refine C_ret ?_ | refine C_exit ?_
        | refine Q_then_ret ?_ | refine Q_then_exit ?_ | refine Q_block ?_ | refine Q_block_ret ?_ | refine Q_block_here ?_ | refine Q_block_on rfl ?_ | refine C_scope ?_ | refine C_label ?_ | refine Q_asn ?_ | refine Q_then_pan ?_ | refine Q_block_pan ?_ | refine Q_scope_pan ?_
    refine C_drawN (.read 0 (.read 1 (.read 2 (.read 3 (.read 4 (.read 5 (.read 6 (.read 7 (.read 8 (.read 9 (.alt 10 .done .stop))))))))))) mixed (by kernel_rfl) (fun wd kd ed => ⟨fun W => W = wd, ?_, ?_⟩)
    · rfl
    obtain ⟨hk0, hs, hl, ha, hn, tv, hb, ho⟩ := id h'
    have hbd := hb.keep kd (by simp)
    ((apply D_R rfl rfl; (intro W hW; subst hW; (first | refine M_ptr rfl ?_ | refine W_move ?_); exact W_nil ⟨rfl, rfl, rfl⟩))
     <;> (apply D_R rfl rfl; (intro W hW; subst hW; refine W_nilCheck rfl ?_; exact W_nil ⟨rfl, rfl, rfl⟩))
     <;> (apply D_R rfl rfl; (intro W hW; subst hW; refine W_fieldAddr rfl ?_; exact W_nil ⟨rfl, rfl, rfl⟩))
     <;> (apply D_R rfl rfl; (intro W hW; subst hW; (first | refine W_load rfl (Blk.cell (by assumption) (by rfl)) ?_ | refine W_load rfl (by assumption) ?_); exact W_nil ⟨rfl, rfl, rfl⟩))
     <;> (apply D_R rfl rfl; (intro W hW; subst hW; (first | refine M_ptr rfl ?_ | refine W_move ?_); exact W_nil ⟨rfl, rfl, rfl⟩))
     <;> (apply D_R rfl rfl; (intro W hW; subst hW; refine W_nilCheck rfl ?_; exact W_nil ⟨rfl, rfl, rfl⟩))
     <;> (apply D_R rfl rfl; (intro W hW; subst hW; refine W_fieldAddr rfl ?_; exact W_nil ⟨rfl, rfl, rfl⟩))
     <;> (apply D_R rfl rfl; (intro W hW; subst hW; (first | refine W_load rfl (Blk.cell (by assumption) (by rfl)) ?_ | refine W_load rfl (by assumption) ?_); exact W_nil ⟨rfl, rfl, rfl⟩))
     <;> (apply D_R rfl rfl; (intro W hW; subst hW; refine W_sslice_l rfl rfl (by omega) ?_; exact W_nil ⟨rfl, rfl, rfl⟩))
     <;> (apply D_R rfl rfl; (intro W hW; subst hW; (first | refine M_str rfl ?_ | refine W_move ?_); exact W_nil ⟨rfl, rfl, rfl⟩)))
    -- at place 10, operation 10: <dst=(some 18) op=(call <callee=(value (func 31)) args=[(tmp 16), (tmp 17)] argTypes=[9, 9]>) type=4 guard=none>
    refine D_E rfl ?_
    refine W_call (pre_ok _ _ _) rfl ?_
    rintro v w2 ⟨rfl, rfl⟩
    refine W_nil ⟨fun W => W = _, fun _ h => h, rfl, ?_⟩
    refine D_nil ?_
    cases hp : hasPre (t.drop a) y with
    | true =>
      rw [hp, if_pos rfl] at hf
      have hpl := ((hasPre_iff _ _).1 hp).length_le
      simp at hpl
      repeat'
        first
          | refine Q_then ?_ | refine C_cond_t rfl ?_ | refine C_cond_f rfl ?_ | refine C_seq ?_ | refine C_block ?_ | refine C_skip ?_ | refine C_ret ?_ | refine C_exit ?_
          | refine Q_then_ret ?_ | refine Q_then_exit ?_ | refine Q_block ?_ | refine Q_block_ret ?_ | refine Q_block_here ?_ | refine Q_block_on rfl ?_ | refine C_scope ?_ | refine C_label ?_ | refine Q_asn ?_ | refine Q_then_pan ?_ | refine Q_block_pan ?_ | refine Q_scope_pan ?_
      (refine C_region ?_
       <;> (first | refine M_ptr rfl ?_ | refine W_move ?_)
       <;> (first | refine M_ptr rfl ?_ | refine W_move ?_)
       <;> refine W_nilCheck rfl ?_
       <;> refine W_fieldAddr rfl ?_
       <;> (first | refine W_load rfl (Blk.cell (by assumption) (by rfl)) ?_ | refine W_load rfl (by assumption) ?_)
       <;> (first | refine M_str rfl ?_ | refine W_move ?_)
       <;> refine W_slen rfl ?_
       <;> refine W_add rfl rfl (by first | exact inR_i64 (by omega) (by omega) | exact inR_u8 (by omega) (by omega) | exact inR_u16 (by omega) (by omega)) ?_)
      -- at operation 8: <dst=(some 27) op=(call <callee=(value (func 29)) args=[(tmp 19), (const (int i64 3)), (tmp 26)] argTypes=[41, 3, 3]>) type=0 guard=none>
      have e : symM t a ts = addM t a ts 3 (a + y.length) := by unfold symM; rw [hf]
      rw [e]
      refine W_callP (addS w0 _ s a (a + y.length) t ts 3 (h'.ext kd) (by omega) (by omega)) (by rw [Int.natCast_add]; rfl) ?_ ?_
      · rintro v w2 ⟨rfl, hh⟩
        refine W_nil ?_
        repeat'
          first
            | refine Q_then ?_ | refine C_cond_t rfl ?_ | refine C_cond_f rfl ?_ | refine C_seq ?_ | refine C_block ?_ | refine C_skip ?_ | refine C_ret ?_ | refine C_exit ?_
            | refine Q_then_ret ?_ | refine Q_then_exit ?_ | refine Q_block ?_ | refine Q_block_ret ?_ | refine Q_block_here ?_ | refine Q_block_on rfl ?_ | refine C_scope ?_ | refine C_label ?_ | refine Q_asn ?_ | refine Q_then_pan ?_ | refine Q_block_pan ?_ | refine Q_scope_pan ?_
        exact fin_ret0 rfl ⟨rfl, hh⟩
      · intro ch w2 hh
        repeat'
          first
            | refine Q_then ?_ | refine C_cond_t rfl ?_ | refine C_cond_f rfl ?_ | refine C_seq ?_ | refine C_block ?_ | refine C_skip ?_ | refine C_ret ?_ | refine C_exit ?_
            | refine Q_then_ret ?_ | refine Q_then_exit ?_ | refine Q_block ?_ | refine Q_block_ret ?_ | refine Q_block_here ?_ | refine Q_block_on rfl ?_ | refine C_scope ?_ | refine C_label ?_ | refine Q_asn ?_ | refine Q_then_pan ?_ | refine Q_block_pan ?_ | refine Q_scope_pan ?_
        exact fin_pan hh
    | false =>
      rw [hp, if_neg (by simp)] at hf
      repeat'
        first
          | refine Q_then ?_ | refine C_cond_t rfl ?_ | refine C_cond_f rfl ?_ | refine C_seq ?_ | refine C_block ?_ | refine C_skip ?_ | refine C_ret ?_ | refine C_exit ?_
          | refine Q_then_ret ?_ | refine Q_then_exit ?_ | refine Q_block ?_ | refine Q_block_ret ?_ | refine Q_block_here ?_ | refine Q_block_on rfl ?_ | refine C_scope ?_ | refine C_label ?_ | refine Q_asn ?_ | refine Q_then_pan ?_ | refine Q_block_pan ?_ | refine Q_scope_pan ?_
      (refine C_region ?_
       <;> refine W_add rfl rfl (by first | exact inR_i64 (by omega) (by omega) | exact inR_u8 (by omega) (by omega) | exact inR_u16 (by omega) (by omega)) ?_
       <;> (first | refine M_int rfl ?_ | refine W_move ?_)
       <;> refine W_nil ?_)
      repeat'
        first
          | refine Q_then ?_ | refine C_cond_t rfl ?_ | refine C_cond_f rfl ?_ | refine C_seq ?_ | refine C_block ?_ | refine C_skip ?_ | refine C_ret ?_ | refine C_exit ?_
          | refine Q_then_ret ?_ | refine Q_then_exit ?_ | refine Q_block ?_ | refine Q_block_ret ?_ | refine Q_block_here ?_ | refine Q_block_on rfl ?_ | refine C_scope ?_ | refine C_label ?_ | refine Q_asn ?_ | refine Q_then_pan ?_ | refine Q_block_pan ?_ | refine Q_scope_pan ?_
      refine ⟨k + 1, ⟨rfl, ⟨rfl, rfl, ?_, trivial⟩, ⟨by omega, hw.trans kd, hf⟩⟩, by omega⟩
      show Value.int .i64 ((k : Int) + 1) = _
      rw [Int.natCast_add]; rfl
  · obtain ⟨hk0, hs, hl, ha, hn, tv, hb, ho⟩ := id h'
    (refine C_region ?_
     <;> (refine W_lss rfl rfl (fun hc => ?_) (fun hc => ?_) <;> try (exfalso; omega))
     <;> refine W_nil ?_)
    repeat'
      first
        | refine Q_then ?_ | refine C_cond_t rfl ?_ | refine C_cond_f rfl ?_ | refine C_seq ?_ | refine C_block ?_ | refine C_skip ?_ | refine C_ret ?_ | refine C_exit ?_
        | refine Q_then_ret ?_ | refine Q_then_exit ?_ | refine Q_block ?_ | refine Q_block_ret ?_ | refine Q_block_here ?_ | refine Q_block_on rfl ?_ | refine C_scope ?_ | refine C_label ?_ | refine Q_asn ?_ | refine Q_then_pan ?_ | refine Q_block_pan ?_ | refine Q_scope_pan ?_
    (refine C_region ?_
     <;> (first | refine M_ptr rfl ?_ | refine W_move ?_)
     <;> refine W_nilCheck rfl ?_
     <;> refine W_fieldAddr rfl ?_
     <;> (first | refine W_load rfl (Blk.cell (by assumption) (by rfl)) ?_ | refine W_load rfl (by assumption) ?_)
     <;> refine W_build (by rfl) (by rfl) ?_
     <;> refine W_iface ?_
     <;> refine W_panic rfl ?_)
    repeat'
      first
        | refine Q_then ?_ | refine C_cond_t rfl ?_ | refine C_cond_f rfl ?_ | refine C_seq ?_ | refine C_block ?_ | refine C_skip ?_ | refine C_ret ?_ | refine C_exit ?_
        | refine Q_then_ret ?_ | refine Q_then_exit ?_ | refine Q_block ?_ | refine Q_block_ret ?_ | refine Q_block_here ?_ | refine Q_block_on rfl ?_ | refine C_scope ?_ | refine C_label ?_ | refine Q_asn ?_ | refine Q_then_pan ?_ | refine Q_block_pan ?_ | refine Q_scope_pan ?_
    refine fin_pan ⟨_, _, ?_, rfl, hk0⟩
    unfold symM
    have hd : symsL.drop k = [] := List.drop_eq_nil_of_le (by show 15 ≤ k; omega)
    rw [hf, hd]
    rfl
end Go.Proofs.YteonolnfgppagaaDoor
