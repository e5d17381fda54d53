/- The reference lexer: kinds of bytes, symbols, the next token. The reference lexer: the next token. Conditions: none. -/
import Derived.Test.YtmnhnbpnjepkbaaGreatDoorK1A13

namespace Go.Proofs.YtmnhnbpnjepkbaaGreatDoor
open Go.RowKit
set_option linter.unusedVariables false

theorem rsmall_ok : Test 56 isSmall := by
  intro c w
  refine fn_of_wc Tryz.func56 rfl Tryz.ntmps56 (Nat.le_of_ble_eq_true rfl) (by kernel_rfl) ?_
  repeat' first | refine nx ?_ | refine C_cond_t rfl ?_ | refine C_cond_f rfl ?_ | refine Q_block_on rfl ?_
  (refine C_region ?_
   <;> (refine M_assign ?_; (first | refine M_bool rfl ?_ | refine W_move ?_))
   <;> refine W_nil ?_)
  repeat' first | refine nx ?_ | refine C_cond_t rfl ?_ | refine C_cond_f rfl ?_ | refine Q_block_on rfl ?_
  (refine C_region ?_
   <;> (first | refine M_int rfl ?_ | refine W_move ?_)
   <;> (refine W_geq rfl rfl (fun hc => ?_) (fun hc => ?_) <;> try (exfalso; omega))
   <;> (first | refine M_bool rfl ?_ | refine W_move ?_)
   <;> (first | refine W_no rfl ?_ | (refine W_yes rfl ?_; (first | refine M_int rfl ?_ | refine W_move ?_)))
   <;> (first | refine W_no rfl ?_ | (refine W_yes rfl ?_; (refine W_leq rfl rfl (fun hc => ?_) (fun hc => ?_) <;> try (exfalso; omega))))
   <;> ((first | refine M_pick_t rfl ?_ | refine M_pick_f rfl ?_); (first | refine M_bool rfl ?_ | refine W_move ?_))
   <;> (refine M_assign ?_; (first | refine M_bool rfl ?_ | refine W_move ?_))
   <;> refine W_nil ?_)
  all_goals
    repeat' first | refine nx ?_ | refine C_cond_t rfl ?_ | refine C_cond_f rfl ?_ | refine Q_block_on rfl ?_
    exact fin_ret1 rfl ⟨by simp [isSmall, upd, Nat.beq]; omega, rfl⟩
theorem rbig_ok : Test 53 isUp := by
  intro c w
  refine fn_of_wc Tryz.func53 rfl Tryz.ntmps53 (Nat.le_of_ble_eq_true rfl) (by kernel_rfl) ?_
  repeat' first | refine nx ?_ | refine C_cond_t rfl ?_ | refine C_cond_f rfl ?_ | refine Q_block_on rfl ?_
  (refine C_region ?_
   <;> (refine M_assign ?_; (first | refine M_bool rfl ?_ | refine W_move ?_))
   <;> refine W_nil ?_)
  repeat' first | refine nx ?_ | refine C_cond_t rfl ?_ | refine C_cond_f rfl ?_ | refine Q_block_on rfl ?_
  (refine C_region ?_
   <;> (first | refine M_int rfl ?_ | refine W_move ?_)
   <;> (refine W_geq rfl rfl (fun hc => ?_) (fun hc => ?_) <;> try (exfalso; omega))
   <;> (first | refine M_bool rfl ?_ | refine W_move ?_)
   <;> (first | refine W_no rfl ?_ | (refine W_yes rfl ?_; (first | refine M_int rfl ?_ | refine W_move ?_)))
   <;> (first | refine W_no rfl ?_ | (refine W_yes rfl ?_; (refine W_leq rfl rfl (fun hc => ?_) (fun hc => ?_) <;> try (exfalso; omega))))
   <;> ((first | refine M_pick_t rfl ?_ | refine M_pick_f rfl ?_); (first | refine M_bool rfl ?_ | refine W_move ?_))
   <;> (refine M_assign ?_; (first | refine M_bool rfl ?_ | refine W_move ?_))
   <;> refine W_nil ?_)
  all_goals
    repeat' first | refine nx ?_ | refine C_cond_t rfl ?_ | refine C_cond_f rfl ?_ | refine Q_block_on rfl ?_
    exact fin_ret1 rfl ⟨by simp [isUp, upd, Nat.beq]; omega, rfl⟩
theorem rdig_ok : Test 55 isDig := by
  intro c w
  refine fn_of_wc Tryz.func55 rfl Tryz.ntmps55 (Nat.le_of_ble_eq_true rfl) (by kernel_rfl) ?_
  repeat' first | refine nx ?_ | refine C_cond_t rfl ?_ | refine C_cond_f rfl ?_ | refine Q_block_on rfl ?_
  (refine C_region ?_
   <;> (refine M_assign ?_; (first | refine M_bool rfl ?_ | refine W_move ?_))
   <;> refine W_nil ?_)
  repeat' first | refine nx ?_ | refine C_cond_t rfl ?_ | refine C_cond_f rfl ?_ | refine Q_block_on rfl ?_
  (refine C_region ?_
   <;> (first | refine M_int rfl ?_ | refine W_move ?_)
   <;> (refine W_geq rfl rfl (fun hc => ?_) (fun hc => ?_) <;> try (exfalso; omega))
   <;> (first | refine M_bool rfl ?_ | refine W_move ?_)
   <;> (first | refine W_no rfl ?_ | (refine W_yes rfl ?_; (first | refine M_int rfl ?_ | refine W_move ?_)))
   <;> (first | refine W_no rfl ?_ | (refine W_yes rfl ?_; (refine W_leq rfl rfl (fun hc => ?_) (fun hc => ?_) <;> try (exfalso; omega))))
   <;> ((first | refine M_pick_t rfl ?_ | refine M_pick_f rfl ?_); (first | refine M_bool rfl ?_ | refine W_move ?_))
   <;> (refine M_assign ?_; (first | refine M_bool rfl ?_ | refine W_move ?_))
   <;> refine W_nil ?_)
  all_goals
    repeat' first | refine nx ?_ | refine C_cond_t rfl ?_ | refine C_cond_f rfl ?_ | refine Q_block_on rfl ?_
    exact fin_ret1 rfl ⟨by simp [isDig, upd, Nat.beq]; omega, rfl⟩
theorem rpart_ok : Test 54 inName := by
  intro c w
  refine fn_of_wc Tryz.func54 rfl Tryz.ntmps54 (Nat.le_of_ble_eq_true rfl) (by kernel_rfl) ?_
  repeat' first | refine nx ?_ | refine C_cond_t rfl ?_ | refine C_cond_f rfl ?_ | refine Q_block_on rfl ?_
  (refine C_region ?_
   <;> (refine M_assign ?_; (first | refine M_bool rfl ?_ | refine W_move ?_))
   <;> refine W_nil ?_)
  repeat' first | refine nx ?_ | refine C_cond_t rfl ?_ | refine C_cond_f rfl ?_ | refine Q_block_on rfl ?_
  (refine C_region ?_
   <;> (first | refine M_int rfl ?_ | refine W_move ?_))
  -- at operation 1: <dst=(some 4) op=(call <callee=(value (func 56)) args=[(tmp 3)] argTypes=[5]>) type=4 guard=none>
  refine W_call (rsmall_ok c w) rfl ?_
  rintro v w' ⟨rfl, rfl⟩
  cases hs : isSmall c with
  | true =>
    ((first | refine M_bool rfl ?_ | refine W_move ?_)
     <;> (first | refine W_no rfl ?_ | (refine W_yes rfl ?_; (first | refine M_int rfl ?_ | refine W_move ?_)))
     <;> refine W_no rfl ?_
     <;> ((first | refine M_pick_t rfl ?_ | refine M_pick_f rfl ?_); (first | refine M_bool rfl ?_ | refine W_move ?_))
     <;> (first | refine M_bool rfl ?_ | refine W_move ?_)
     <;> (first | refine W_no rfl ?_ | (refine W_yes rfl ?_; (first | refine M_int rfl ?_ | refine W_move ?_)))
     <;> (first | refine W_no rfl ?_ | (refine W_yes rfl ?_; (refine W_eql rfl rfl (fun hc => ?_) (fun hc => ?_) <;> try (exfalso; omega))))
     <;> ((first | refine M_pick_t rfl ?_ | refine M_pick_f rfl ?_); (first | refine M_bool rfl ?_ | refine W_move ?_))
     <;> (refine M_assign ?_; (first | refine M_bool rfl ?_ | refine W_move ?_))
     <;> refine W_nil ?_)
    all_goals
      repeat' first | refine nx ?_ | refine C_cond_t rfl ?_ | refine C_cond_f rfl ?_ | refine Q_block_on rfl ?_
      exact fin_ret1 rfl ⟨by simp [inName, hs, upd, Nat.beq], rfl⟩
  | false =>
    ((first | refine M_bool rfl ?_ | refine W_move ?_)
     <;> (first | refine W_no rfl ?_ | (refine W_yes rfl ?_; (first | refine M_int rfl ?_ | refine W_move ?_))))
    -- at operation 4: <dst=(some 7) op=(call <callee=(value (func 55)) args=[(tmp 6)] argTypes=[5]>) type=4 guard=(some [2, false])>
    refine W_yes rfl ?_
    refine W_call (rdig_ok c _) rfl ?_
    rintro v w' ⟨rfl, rfl⟩
    cases hd : isDig c with
    | true =>
      (((first | refine M_pick_t rfl ?_ | refine M_pick_f rfl ?_); (first | refine M_bool rfl ?_ | refine W_move ?_))
       <;> (first | refine M_bool rfl ?_ | refine W_move ?_)
       <;> (first | refine W_no rfl ?_ | (refine W_yes rfl ?_; (first | refine M_int rfl ?_ | refine W_move ?_)))
       <;> (first | refine W_no rfl ?_ | (refine W_yes rfl ?_; (refine W_eql rfl rfl (fun hc => ?_) (fun hc => ?_) <;> try (exfalso; omega))))
       <;> ((first | refine M_pick_t rfl ?_ | refine M_pick_f rfl ?_); (first | refine M_bool rfl ?_ | refine W_move ?_))
       <;> (refine M_assign ?_; (first | refine M_bool rfl ?_ | refine W_move ?_))
       <;> refine W_nil ?_)
      all_goals
        repeat' first | refine nx ?_ | refine C_cond_t rfl ?_ | refine C_cond_f rfl ?_ | refine Q_block_on rfl ?_
        exact fin_ret1 rfl ⟨by simp [inName, hs, hd, upd, Nat.beq], rfl⟩
    | false =>
      (((first | refine M_pick_t rfl ?_ | refine M_pick_f rfl ?_); (first | refine M_bool rfl ?_ | refine W_move ?_))
       <;> (first | refine M_bool rfl ?_ | refine W_move ?_)
       <;> (first | refine W_no rfl ?_ | (refine W_yes rfl ?_; (first | refine M_int rfl ?_ | refine W_move ?_)))
       <;> (first | refine W_no rfl ?_ | (refine W_yes rfl ?_; (refine W_eql rfl rfl (fun hc => ?_) (fun hc => ?_) <;> try (exfalso; omega))))
       <;> ((first | refine M_pick_t rfl ?_ | refine M_pick_f rfl ?_); (first | refine M_bool rfl ?_ | refine W_move ?_))
       <;> (refine M_assign ?_; (first | refine M_bool rfl ?_ | refine W_move ?_))
       <;> refine W_nil ?_)
      all_goals
        repeat' first | refine nx ?_ | refine C_cond_t rfl ?_ | refine C_cond_f rfl ?_ | refine Q_block_on rfl ?_
        exact fin_ret1 rfl ⟨by simp [inName, hs, hd, upd, Nat.beq]; omega, rfl⟩

theorem rsymbols_ok (w : World) : Fn Tryz.prog 82 [] w fun v w' => v = .slice (some ⟨w.heap.size, 0, none⟩) 15 15 ∧ Ext w w' ∧ Cells w' w.heap.size 0 symC := by
  refine fn_of_wc Tryz.func82 rfl Tryz.ntmps82 (Nat.le_of_ble_eq_true rfl) (by kernel_rfl) ?_
  repeat' first | refine nx ?_ | refine C_cond_t rfl ?_ | refine C_cond_f rfl ?_ | refine Q_block_on rfl ?_
  (refine C_region ?_
   <;> (refine M_assign ?_; (first | refine M_slice rfl ?_ | refine W_move ?_))
   <;> refine W_nil ?_)
  repeat' first | refine nx ?_ | refine C_cond_t rfl ?_ | refine C_cond_f rfl ?_ | refine Q_block_on rfl ?_
  (refine C_region ?_)
  -- at operation 0: <dst=(some 1) op=(buildSlice 54 15 [[0, (const (string <data=[45, 62]>))], [1, (const (string <data=[33, 61]>))], [2, (const (string <data=[40]>))], [3, (const (string <data=[41]>))], [4, (const (string <data=[123]>))], [5, (const (string <data=[125]>))], [6, (const (string <data=[91]>))], [7, (const (string <data=[93]>))], [8, (const (string <data=[44]>))], [9, (const (string <data=[59]>))], [10, (const (string <data=[58]>))], [11, (const (string <data=[61]>))], [12, (const (string <data=[33]>))], [13, (const (string <data=[38]>))], [14, (const (string <data=[124]>))]]) type=54 guard=none>
  refine W_buildSlice1 (out := symC) rfl (by omega) rfl (by kernel_rfl) (fun w2 n2 => ?_)
  ((refine M_assign ?_; (first | refine M_slice rfl ?_ | refine W_move ?_))
   <;> refine W_nil ?_)
  repeat' first | refine nx ?_ | refine C_cond_t rfl ?_ | refine C_cond_f rfl ?_ | refine Q_block_on rfl ?_
  exact fin_ret1 rfl ⟨rfl, n2.keep, n2.blk.cells⟩

/-- the symbol at the beginning of a text -/
def symW (u : List UInt8) : List UInt8 := (symsL.find? (hasPre u)).getD []
theorem rsymbol_ok (u : List UInt8) (w : World) : Fn Tryz.prog 57 [strV u] w fun v w' => v = strV (symW u) ∧ Ext w w' := by
  refine fn_of_wc Tryz.func57 rfl Tryz.ntmps57 (Nat.le_of_ble_eq_true rfl) (by kernel_rfl) ?_
  repeat' first | refine nx ?_ | refine C_cond_t rfl ?_ | refine C_cond_f rfl ?_ | refine Q_block_on rfl ?_
  (refine C_region ?_
   <;> (refine M_assign ?_; (first | refine M_str rfl ?_ | refine W_move ?_))
   <;> refine W_nil ?_)
  repeat' first | refine nx ?_ | refine C_cond_t rfl ?_ | refine C_cond_f rfl ?_ | refine Q_block_on rfl ?_
  (refine C_region ?_)
  -- at operation 0: <dst=(some 5) op=(call <callee=(value (func 82)) args=[] argTypes=[]>) type=54 guard=none>
  refine W_call (rsymbols_ok w) rfl ?_
  rintro v w1 ⟨rfl, k1, hC⟩
  ((refine M_assign ?_; (first | refine M_slice rfl ?_ | refine W_move ?_))
   <;> refine W_nil ?_)
  repeat' first | refine nx ?_ | refine C_cond_t rfl ?_ | refine C_cond_f rfl ?_ | refine Q_block_on rfl ?_
  (refine C_region ?_
   <;> (refine M_assign ?_; (first | refine M_int rfl ?_ | refine W_move ?_))
   <;> refine W_nil ?_)
  repeat' first | refine nx ?_ | refine C_cond_t rfl ?_ | refine C_cond_f rfl ?_ | refine Q_block_on rfl ?_
  refine C_loop (α := Nat) (fun k => [(0, strV u), (3, .slice (some ⟨w.heap.size, 0, none⟩) 15 15), (4, .int .i64 (k : Int))]) (fun k w2 => k ≤ 15 ∧ Ext w1 w2 ∧ symsL.find? (hasPre u) = (symsL.drop k).find? (hasPre u)) (fun k => 15 - k) 0 ⟨rfl, rfl, rfl, trivial⟩ ⟨by omega, Ext.refl _, rfl⟩ ?_
  rintro k w2 f' ⟨hk, k2, hf⟩
  repeat' first | refine nx ?_ | refine C_cond_t rfl ?_ | refine C_cond_f rfl ?_ | refine Q_block_on rfl ?_
  by_cases hlt : k < 15
  · obtain ⟨y, hy⟩ : ∃ y, symsL[k]? = some y := ⟨_, List.getElem?_eq_getElem (by show k < 15; exact hlt)⟩
    have hyc : symC[k]? = some (strV y) := by unfold symC; rw [List.getElem?_map, hy]; rfl
    rw [find_step hy] at hf
    (refine C_region ?_
     <;> (first | refine M_int rfl ?_ | refine W_move ?_)
     <;> (first | refine M_slice rfl ?_ | refine W_move ?_)
     <;> refine W_len rfl ?_
     <;> (refine W_lss rfl rfl (fun hc => ?_) (fun hc => ?_) <;> try (exfalso; omega))
     <;> refine W_nil ?_)
    repeat' first | refine nx ?_ | refine C_cond_t rfl ?_ | refine C_cond_f rfl ?_ | refine Q_block_on rfl ?_
    refine C_drawN (.read 0 (.read 1 (.read 2 (.read 3 (.read 4 (.read 5 (.read 6 (.read 7 (.read 8 (.read 9 (.read 10 (.read 11 (.read 12 (.read 13 (.read 14 (.read 15 (.read 16 (.read 17 (.read 18 (.read 19 (.read 20 (.read 21 .done)))))))))))))))))))))) mixed (by kernel_rfl) (fun wd kd ed => ⟨fun W => W = wd, ?_, ?_⟩)
    · rfl
    have hcell : wd.cell? ⟨w.heap.size, 0 + k, none⟩ = some (strV y) := ((hC.keep k2 (by simp)).keep kd (by simp)) k _ hyc
    by_cases hl : y.length ≤ u.length
    · by_cases he : u.take y.length = y
      · have hp : hasPre u y = true := by simp [hasPre, hl, he]
        ((apply D_R rfl rfl; (intro W hW; subst hW; (first | refine M_str rfl ?_ | refine W_move ?_); exact W_nil ⟨rfl, rfl, rfl⟩))
         <;> (apply D_R rfl rfl; (intro W hW; subst hW; refine W_slen rfl ?_; exact W_nil ⟨rfl, rfl, rfl⟩))
         <;> (apply D_R rfl rfl; (intro W hW; subst hW; (first | refine M_slice rfl ?_ | refine W_move ?_); exact W_nil ⟨rfl, rfl, rfl⟩))
         <;> (apply D_R rfl rfl; (intro W hW; subst hW; (first | refine M_int rfl ?_ | refine W_move ?_); exact W_nil ⟨rfl, rfl, rfl⟩))
         <;> (apply D_R rfl rfl; (intro W hW; subst hW; (first | refine W_idx1 rfl rfl rfl (by omega) ?_ | refine W_idx rfl rfl rfl (by omega) ?_ | refine W_indexAddr rfl rfl (by omega) (by omega) ?_); exact W_nil ⟨rfl, rfl, rfl⟩))
         <;> (apply D_R rfl rfl; (intro W hW; subst hW; (first | refine W_load rfl (Blk.cell (by assumption) (by rfl)) ?_ | refine W_load rfl (by assumption) ?_); exact W_nil ⟨rfl, rfl, rfl⟩))
         <;> (apply D_R rfl rfl; (intro W hW; subst hW; refine W_slen rfl ?_; exact W_nil ⟨rfl, rfl, rfl⟩))
         <;> (refine D_geq rfl rfl rfl rfl (fun hc => ?_) (fun hc => ?_) <;> try (exfalso; omega))
         <;> (apply D_R rfl rfl; (intro W hW; subst hW; (first | refine M_bool rfl ?_ | refine W_move ?_); exact W_nil ⟨rfl, rfl, rfl⟩))
         <;> (first | refine D_skip rfl rfl rfl rfl ?_ | (apply D_R rfl rfl; (intro W hW; refine W_no rfl ?_; exact W_nil ⟨rfl, rfl, rfl⟩)) | (apply D_R rfl rfl; (intro W hW; subst hW; (refine W_yes rfl ?_; (first | refine M_str rfl ?_ | refine W_move ?_)); exact W_nil ⟨rfl, rfl, rfl⟩)))
         <;> (first | refine D_skip rfl rfl rfl rfl ?_ | (apply D_R rfl rfl; (intro W hW; refine W_no rfl ?_; exact W_nil ⟨rfl, rfl, rfl⟩)) | (apply D_R rfl rfl; (intro W hW; subst hW; (refine W_yes rfl ?_; (first | refine M_slice rfl ?_ | refine W_move ?_)); exact W_nil ⟨rfl, rfl, rfl⟩)))
         <;> (first | refine D_skip rfl rfl rfl rfl ?_ | (apply D_R rfl rfl; (intro W hW; refine W_no rfl ?_; exact W_nil ⟨rfl, rfl, rfl⟩)) | (apply D_R rfl rfl; (intro W hW; subst hW; (refine W_yes rfl ?_; (first | refine M_int rfl ?_ | refine W_move ?_)); exact W_nil ⟨rfl, rfl, rfl⟩)))
         <;> (first | refine D_skip rfl rfl rfl rfl ?_ | (apply D_R rfl rfl; (intro W hW; refine W_no rfl ?_; exact W_nil ⟨rfl, rfl, rfl⟩)) | (apply D_R rfl rfl; (intro W hW; subst hW; (refine W_yes rfl ?_; (first | refine W_idx1 rfl rfl rfl (by omega) ?_ | refine W_idx rfl rfl rfl (by omega) ?_ | refine W_indexAddr rfl rfl (by omega) (by omega) ?_)); exact W_nil ⟨rfl, rfl, rfl⟩)))
         <;> (first | refine D_skip rfl rfl rfl rfl ?_ | (apply D_R rfl rfl; (intro W hW; refine W_no rfl ?_; exact W_nil ⟨rfl, rfl, rfl⟩)) | (apply D_R rfl rfl; (intro W hW; subst hW; (refine W_yes rfl ?_; (first | refine W_load rfl (Blk.cell (by assumption) (by rfl)) ?_ | refine W_load rfl (by assumption) ?_)); exact W_nil ⟨rfl, rfl, rfl⟩)))
         <;> (first | refine D_skip rfl rfl rfl rfl ?_ | (apply D_R rfl rfl; (intro W hW; refine W_no rfl ?_; exact W_nil ⟨rfl, rfl, rfl⟩)) | (apply D_R rfl rfl; (intro W hW; subst hW; (refine W_yes rfl ?_; refine W_slen rfl ?_); exact W_nil ⟨rfl, rfl, rfl⟩)))
         <;> (first | refine D_skip rfl rfl rfl rfl ?_ | (apply D_R rfl rfl; (intro W hW; refine W_no rfl ?_; exact W_nil ⟨rfl, rfl, rfl⟩)) | (apply D_R rfl rfl; (intro W hW; subst hW; (refine W_yes rfl ?_; refine W_sslice_h rfl rfl (by omega) ?_); exact W_nil ⟨rfl, rfl, rfl⟩)))
         <;> (first | refine D_skip rfl rfl rfl rfl ?_ | (apply D_R rfl rfl; (intro W hW; refine W_no rfl ?_; exact W_nil ⟨rfl, rfl, rfl⟩)) | (apply D_R rfl rfl; (intro W hW; subst hW; (refine W_yes rfl ?_; (first | refine M_slice rfl ?_ | refine W_move ?_)); exact W_nil ⟨rfl, rfl, rfl⟩)))
         <;> (first | refine D_skip rfl rfl rfl rfl ?_ | (apply D_R rfl rfl; (intro W hW; refine W_no rfl ?_; exact W_nil ⟨rfl, rfl, rfl⟩)) | (apply D_R rfl rfl; (intro W hW; subst hW; (refine W_yes rfl ?_; (first | refine M_int rfl ?_ | refine W_move ?_)); exact W_nil ⟨rfl, rfl, rfl⟩)))
         <;> (first | refine D_skip rfl rfl rfl rfl ?_ | (apply D_R rfl rfl; (intro W hW; refine W_no rfl ?_; exact W_nil ⟨rfl, rfl, rfl⟩)) | (apply D_R rfl rfl; (intro W hW; subst hW; (refine W_yes rfl ?_; (first | refine W_idx1 rfl rfl rfl (by omega) ?_ | refine W_idx rfl rfl rfl (by omega) ?_ | refine W_indexAddr rfl rfl (by omega) (by omega) ?_)); exact W_nil ⟨rfl, rfl, rfl⟩)))
         <;> (first | refine D_skip rfl rfl rfl rfl ?_ | (apply D_R rfl rfl; (intro W hW; refine W_no rfl ?_; exact W_nil ⟨rfl, rfl, rfl⟩)) | (apply D_R rfl rfl; (intro W hW; subst hW; (refine W_yes rfl ?_; (first | refine W_load rfl (Blk.cell (by assumption) (by rfl)) ?_ | refine W_load rfl (by assumption) ?_)); exact W_nil ⟨rfl, rfl, rfl⟩)))
         <;> (first | refine D_skip rfl rfl rfl rfl ?_ | (apply D_R rfl rfl; (intro W hW; refine W_no rfl ?_; exact W_nil ⟨rfl, rfl, rfl⟩)) | (refine D_seql rfl rfl rfl rfl (fun hc => ?_) (fun hc => ?_)))
         <;> (apply D_R rfl rfl; (intro W hW; subst hW; ((first | refine M_pick_t rfl ?_ | refine M_pick_f rfl ?_); (first | refine M_bool rfl ?_ | refine W_move ?_)); exact W_nil ⟨rfl, rfl, rfl⟩))
         <;> refine D_nil ?_)
        · repeat' first | refine nx ?_ | refine C_cond_t rfl ?_ | refine C_cond_f rfl ?_ | refine Q_block_on rfl ?_
          have hcell' : wd.cell? ⟨w.heap.size, 0 + k, none⟩ = some (strV y) := hcell
          (refine C_region ?_
           <;> (first | refine M_slice rfl ?_ | refine W_move ?_)
           <;> (first | refine M_int rfl ?_ | refine W_move ?_)
           <;> (first | refine W_idx1 rfl rfl rfl (by omega) ?_ | refine W_idx rfl rfl rfl (by omega) ?_ | refine W_indexAddr rfl rfl (by omega) (by omega) ?_)
           <;> (first | refine W_load rfl (Blk.cell (by assumption) (by rfl)) ?_ | refine W_load rfl (by assumption) ?_)
           <;> (refine M_assign ?_; (first | refine M_str rfl ?_ | refine W_move ?_))
           <;> refine W_nil ?_)
          repeat' first | refine nx ?_ | refine C_cond_t rfl ?_ | refine C_cond_f rfl ?_ | refine Q_block_on rfl ?_
          rw [hp, if_pos rfl] at hf
          exact fin_ret1 rfl ⟨by unfold symW; rw [hf]; rfl, (k1.trans k2).trans kd⟩
        · exact absurd he (by assumption)
      · have hp : hasPre u y = false := by simp [hasPre, he]
        rw [hp, if_neg (by simp)] at hf
        ((apply D_R rfl rfl; (intro W hW; subst hW; (first | refine M_str rfl ?_ | refine W_move ?_); exact W_nil ⟨rfl, rfl, rfl⟩))
         <;> (apply D_R rfl rfl; (intro W hW; subst hW; refine W_slen rfl ?_; exact W_nil ⟨rfl, rfl, rfl⟩))
         <;> (apply D_R rfl rfl; (intro W hW; subst hW; (first | refine M_slice rfl ?_ | refine W_move ?_); exact W_nil ⟨rfl, rfl, rfl⟩))
         <;> (apply D_R rfl rfl; (intro W hW; subst hW; (first | refine M_int rfl ?_ | refine W_move ?_); exact W_nil ⟨rfl, rfl, rfl⟩))
         <;> (apply D_R rfl rfl; (intro W hW; subst hW; (first | refine W_idx1 rfl rfl rfl (by omega) ?_ | refine W_idx rfl rfl rfl (by omega) ?_ | refine W_indexAddr rfl rfl (by omega) (by omega) ?_); exact W_nil ⟨rfl, rfl, rfl⟩))
         <;> (apply D_R rfl rfl; (intro W hW; subst hW; (first | refine W_load rfl (Blk.cell (by assumption) (by rfl)) ?_ | refine W_load rfl (by assumption) ?_); exact W_nil ⟨rfl, rfl, rfl⟩))
         <;> (apply D_R rfl rfl; (intro W hW; subst hW; refine W_slen rfl ?_; exact W_nil ⟨rfl, rfl, rfl⟩))
         <;> (refine D_geq rfl rfl rfl rfl (fun hc => ?_) (fun hc => ?_) <;> try (exfalso; omega))
         <;> (apply D_R rfl rfl; (intro W hW; subst hW; (first | refine M_bool rfl ?_ | refine W_move ?_); exact W_nil ⟨rfl, rfl, rfl⟩))
         <;> (first | refine D_skip rfl rfl rfl rfl ?_ | (apply D_R rfl rfl; (intro W hW; refine W_no rfl ?_; exact W_nil ⟨rfl, rfl, rfl⟩)) | (apply D_R rfl rfl; (intro W hW; subst hW; (refine W_yes rfl ?_; (first | refine M_str rfl ?_ | refine W_move ?_)); exact W_nil ⟨rfl, rfl, rfl⟩)))
         <;> (first | refine D_skip rfl rfl rfl rfl ?_ | (apply D_R rfl rfl; (intro W hW; refine W_no rfl ?_; exact W_nil ⟨rfl, rfl, rfl⟩)) | (apply D_R rfl rfl; (intro W hW; subst hW; (refine W_yes rfl ?_; (first | refine M_slice rfl ?_ | refine W_move ?_)); exact W_nil ⟨rfl, rfl, rfl⟩)))
         <;> (first | refine D_skip rfl rfl rfl rfl ?_ | (apply D_R rfl rfl; (intro W hW; refine W_no rfl ?_; exact W_nil ⟨rfl, rfl, rfl⟩)) | (apply D_R rfl rfl; (intro W hW; subst hW; (refine W_yes rfl ?_; (first | refine M_int rfl ?_ | refine W_move ?_)); exact W_nil ⟨rfl, rfl, rfl⟩)))
         <;> (first | refine D_skip rfl rfl rfl rfl ?_ | (apply D_R rfl rfl; (intro W hW; refine W_no rfl ?_; exact W_nil ⟨rfl, rfl, rfl⟩)) | (apply D_R rfl rfl; (intro W hW; subst hW; (refine W_yes rfl ?_; (first | refine W_idx1 rfl rfl rfl (by omega) ?_ | refine W_idx rfl rfl rfl (by omega) ?_ | refine W_indexAddr rfl rfl (by omega) (by omega) ?_)); exact W_nil ⟨rfl, rfl, rfl⟩)))
         <;> (first | refine D_skip rfl rfl rfl rfl ?_ | (apply D_R rfl rfl; (intro W hW; refine W_no rfl ?_; exact W_nil ⟨rfl, rfl, rfl⟩)) | (apply D_R rfl rfl; (intro W hW; subst hW; (refine W_yes rfl ?_; (first | refine W_load rfl (Blk.cell (by assumption) (by rfl)) ?_ | refine W_load rfl (by assumption) ?_)); exact W_nil ⟨rfl, rfl, rfl⟩)))
         <;> (first | refine D_skip rfl rfl rfl rfl ?_ | (apply D_R rfl rfl; (intro W hW; refine W_no rfl ?_; exact W_nil ⟨rfl, rfl, rfl⟩)) | (apply D_R rfl rfl; (intro W hW; subst hW; (refine W_yes rfl ?_; refine W_slen rfl ?_); exact W_nil ⟨rfl, rfl, rfl⟩)))
         <;> (first | refine D_skip rfl rfl rfl rfl ?_ | (apply D_R rfl rfl; (intro W hW; refine W_no rfl ?_; exact W_nil ⟨rfl, rfl, rfl⟩)) | (apply D_R rfl rfl; (intro W hW; subst hW; (refine W_yes rfl ?_; refine W_sslice_h rfl rfl (by omega) ?_); exact W_nil ⟨rfl, rfl, rfl⟩)))
         <;> (first | refine D_skip rfl rfl rfl rfl ?_ | (apply D_R rfl rfl; (intro W hW; refine W_no rfl ?_; exact W_nil ⟨rfl, rfl, rfl⟩)) | (apply D_R rfl rfl; (intro W hW; subst hW; (refine W_yes rfl ?_; (first | refine M_slice rfl ?_ | refine W_move ?_)); exact W_nil ⟨rfl, rfl, rfl⟩)))
         <;> (first | refine D_skip rfl rfl rfl rfl ?_ | (apply D_R rfl rfl; (intro W hW; refine W_no rfl ?_; exact W_nil ⟨rfl, rfl, rfl⟩)) | (apply D_R rfl rfl; (intro W hW; subst hW; (refine W_yes rfl ?_; (first | refine M_int rfl ?_ | refine W_move ?_)); exact W_nil ⟨rfl, rfl, rfl⟩)))
         <;> (first | refine D_skip rfl rfl rfl rfl ?_ | (apply D_R rfl rfl; (intro W hW; refine W_no rfl ?_; exact W_nil ⟨rfl, rfl, rfl⟩)) | (apply D_R rfl rfl; (intro W hW; subst hW; (refine W_yes rfl ?_; (first | refine W_idx1 rfl rfl rfl (by omega) ?_ | refine W_idx rfl rfl rfl (by omega) ?_ | refine W_indexAddr rfl rfl (by omega) (by omega) ?_)); exact W_nil ⟨rfl, rfl, rfl⟩)))
         <;> (first | refine D_skip rfl rfl rfl rfl ?_ | (apply D_R rfl rfl; (intro W hW; refine W_no rfl ?_; exact W_nil ⟨rfl, rfl, rfl⟩)) | (apply D_R rfl rfl; (intro W hW; subst hW; (refine W_yes rfl ?_; (first | refine W_load rfl (Blk.cell (by assumption) (by rfl)) ?_ | refine W_load rfl (by assumption) ?_)); exact W_nil ⟨rfl, rfl, rfl⟩)))
         <;> (first | refine D_skip rfl rfl rfl rfl ?_ | (apply D_R rfl rfl; (intro W hW; refine W_no rfl ?_; exact W_nil ⟨rfl, rfl, rfl⟩)) | (refine D_seql rfl rfl rfl rfl (fun hc => ?_) (fun hc => ?_)))
         <;> (apply D_R rfl rfl; (intro W hW; subst hW; ((first | refine M_pick_t rfl ?_ | refine M_pick_f rfl ?_); (first | refine M_bool rfl ?_ | refine W_move ?_)); exact W_nil ⟨rfl, rfl, rfl⟩))
         <;> refine D_nil ?_)
        · exact absurd (by assumption) he
        · repeat' first | refine nx ?_ | refine C_cond_t rfl ?_ | refine C_cond_f rfl ?_ | refine Q_block_on rfl ?_
          (refine C_region ?_
           <;> (first | refine M_int rfl ?_ | refine W_move ?_)
           <;> refine W_add rfl rfl (by first | exact inR_i64 (by omega) (by omega) | exact inR_u8 (by omega) (by omega) | exact inR_u16 (by omega) (by omega)) ?_
           <;> (refine M_assign ?_; (first | refine M_int rfl ?_ | refine W_move ?_))
           <;> refine W_nil ?_)
          repeat' first | refine nx ?_ | refine C_cond_t rfl ?_ | refine C_cond_f rfl ?_ | refine Q_block_on rfl ?_
          refine ⟨k + 1, ⟨rfl, ⟨rfl, rfl, ?_, trivial⟩, ⟨by omega, k2.trans kd, hf⟩⟩, by omega⟩
          show Value.int .i64 ((k : Int) + 1) = _
          rw [Int.natCast_add]; rfl
    · have hp : hasPre u y = false := by simp [hasPre, hl]
      rw [hp, if_neg (by simp)] at hf
      ((apply D_R rfl rfl; (intro W hW; subst hW; (first | refine M_str rfl ?_ | refine W_move ?_); exact W_nil ⟨rfl, rfl, rfl⟩))
       <;> (apply D_R rfl rfl; (intro W hW; subst hW; refine W_slen rfl ?_; exact W_nil ⟨rfl, rfl, rfl⟩))
       <;> (apply D_R rfl rfl; (intro W hW; subst hW; (first | refine M_slice rfl ?_ | refine W_move ?_); exact W_nil ⟨rfl, rfl, rfl⟩))
       <;> (apply D_R rfl rfl; (intro W hW; subst hW; (first | refine M_int rfl ?_ | refine W_move ?_); exact W_nil ⟨rfl, rfl, rfl⟩))
       <;> (apply D_R rfl rfl; (intro W hW; subst hW; (first | refine W_idx1 rfl rfl rfl (by omega) ?_ | refine W_idx rfl rfl rfl (by omega) ?_ | refine W_indexAddr rfl rfl (by omega) (by omega) ?_); exact W_nil ⟨rfl, rfl, rfl⟩))
       <;> (apply D_R rfl rfl; (intro W hW; subst hW; (first | refine W_load rfl (Blk.cell (by assumption) (by rfl)) ?_ | refine W_load rfl (by assumption) ?_); exact W_nil ⟨rfl, rfl, rfl⟩))
       <;> (apply D_R rfl rfl; (intro W hW; subst hW; refine W_slen rfl ?_; exact W_nil ⟨rfl, rfl, rfl⟩))
       <;> (refine D_geq rfl rfl rfl rfl (fun hc => ?_) (fun hc => ?_) <;> try (exfalso; omega))
       <;> (apply D_R rfl rfl; (intro W hW; subst hW; (first | refine M_bool rfl ?_ | refine W_move ?_); exact W_nil ⟨rfl, rfl, rfl⟩))
       <;> (first | refine D_skip rfl rfl rfl rfl ?_ | (apply D_R rfl rfl; (intro W hW; refine W_no rfl ?_; exact W_nil ⟨rfl, rfl, rfl⟩)) | (apply D_R rfl rfl; (intro W hW; subst hW; (refine W_yes rfl ?_; (first | refine M_str rfl ?_ | refine W_move ?_)); exact W_nil ⟨rfl, rfl, rfl⟩)))
       <;> (first | refine D_skip rfl rfl rfl rfl ?_ | (apply D_R rfl rfl; (intro W hW; refine W_no rfl ?_; exact W_nil ⟨rfl, rfl, rfl⟩)) | (apply D_R rfl rfl; (intro W hW; subst hW; (refine W_yes rfl ?_; (first | refine M_slice rfl ?_ | refine W_move ?_)); exact W_nil ⟨rfl, rfl, rfl⟩)))
       <;> (first | refine D_skip rfl rfl rfl rfl ?_ | (apply D_R rfl rfl; (intro W hW; refine W_no rfl ?_; exact W_nil ⟨rfl, rfl, rfl⟩)) | (apply D_R rfl rfl; (intro W hW; subst hW; (refine W_yes rfl ?_; (first | refine M_int rfl ?_ | refine W_move ?_)); exact W_nil ⟨rfl, rfl, rfl⟩)))
       <;> (first | refine D_skip rfl rfl rfl rfl ?_ | (apply D_R rfl rfl; (intro W hW; refine W_no rfl ?_; exact W_nil ⟨rfl, rfl, rfl⟩)) | (apply D_R rfl rfl; (intro W hW; subst hW; (refine W_yes rfl ?_; (first | refine W_idx1 rfl rfl rfl (by omega) ?_ | refine W_idx rfl rfl rfl (by omega) ?_ | refine W_indexAddr rfl rfl (by omega) (by omega) ?_)); exact W_nil ⟨rfl, rfl, rfl⟩)))
       <;> (first | refine D_skip rfl rfl rfl rfl ?_ | (apply D_R rfl rfl; (intro W hW; refine W_no rfl ?_; exact W_nil ⟨rfl, rfl, rfl⟩)) | (apply D_R rfl rfl; (intro W hW; subst hW; (refine W_yes rfl ?_; (first | refine W_load rfl (Blk.cell (by assumption) (by rfl)) ?_ | refine W_load rfl (by assumption) ?_)); exact W_nil ⟨rfl, rfl, rfl⟩)))
       <;> (first | refine D_skip rfl rfl rfl rfl ?_ | (apply D_R rfl rfl; (intro W hW; refine W_no rfl ?_; exact W_nil ⟨rfl, rfl, rfl⟩)) | (apply D_R rfl rfl; (intro W hW; subst hW; (refine W_yes rfl ?_; refine W_slen rfl ?_); exact W_nil ⟨rfl, rfl, rfl⟩)))
       <;> (first | refine D_skip rfl rfl rfl rfl ?_ | (apply D_R rfl rfl; (intro W hW; refine W_no rfl ?_; exact W_nil ⟨rfl, rfl, rfl⟩)) | (apply D_R rfl rfl; (intro W hW; subst hW; (refine W_yes rfl ?_; refine W_sslice_h rfl rfl (by omega) ?_); exact W_nil ⟨rfl, rfl, rfl⟩)))
       <;> (first | refine D_skip rfl rfl rfl rfl ?_ | (apply D_R rfl rfl; (intro W hW; refine W_no rfl ?_; exact W_nil ⟨rfl, rfl, rfl⟩)) | (apply D_R rfl rfl; (intro W hW; subst hW; (refine W_yes rfl ?_; (first | refine M_slice rfl ?_ | refine W_move ?_)); exact W_nil ⟨rfl, rfl, rfl⟩)))
       <;> (first | refine D_skip rfl rfl rfl rfl ?_ | (apply D_R rfl rfl; (intro W hW; refine W_no rfl ?_; exact W_nil ⟨rfl, rfl, rfl⟩)) | (apply D_R rfl rfl; (intro W hW; subst hW; (refine W_yes rfl ?_; (first | refine M_int rfl ?_ | refine W_move ?_)); exact W_nil ⟨rfl, rfl, rfl⟩)))
       <;> (first | refine D_skip rfl rfl rfl rfl ?_ | (apply D_R rfl rfl; (intro W hW; refine W_no rfl ?_; exact W_nil ⟨rfl, rfl, rfl⟩)) | (apply D_R rfl rfl; (intro W hW; subst hW; (refine W_yes rfl ?_; (first | refine W_idx1 rfl rfl rfl (by omega) ?_ | refine W_idx rfl rfl rfl (by omega) ?_ | refine W_indexAddr rfl rfl (by omega) (by omega) ?_)); exact W_nil ⟨rfl, rfl, rfl⟩)))
       <;> (first | refine D_skip rfl rfl rfl rfl ?_ | (apply D_R rfl rfl; (intro W hW; refine W_no rfl ?_; exact W_nil ⟨rfl, rfl, rfl⟩)) | (apply D_R rfl rfl; (intro W hW; subst hW; (refine W_yes rfl ?_; (first | refine W_load rfl (Blk.cell (by assumption) (by rfl)) ?_ | refine W_load rfl (by assumption) ?_)); exact W_nil ⟨rfl, rfl, rfl⟩)))
       <;> (first | refine D_skip rfl rfl rfl rfl ?_ | (apply D_R rfl rfl; (intro W hW; refine W_no rfl ?_; exact W_nil ⟨rfl, rfl, rfl⟩)) | (refine D_seql rfl rfl rfl rfl (fun hc => ?_) (fun hc => ?_)))
       <;> (apply D_R rfl rfl; (intro W hW; subst hW; ((first | refine M_pick_t rfl ?_ | refine M_pick_f rfl ?_); (first | refine M_bool rfl ?_ | refine W_move ?_)); exact W_nil ⟨rfl, rfl, rfl⟩))
       <;> refine D_nil ?_)
      repeat' first | refine nx ?_ | refine C_cond_t rfl ?_ | refine C_cond_f rfl ?_ | refine Q_block_on rfl ?_
      (refine C_region ?_
       <;> (first | refine M_int rfl ?_ | refine W_move ?_)
       <;> refine W_add rfl rfl (by first | exact inR_i64 (by omega) (by omega) | exact inR_u8 (by omega) (by omega) | exact inR_u16 (by omega) (by omega)) ?_
       <;> (refine M_assign ?_; (first | refine M_int rfl ?_ | refine W_move ?_))
       <;> refine W_nil ?_)
      repeat' first | refine nx ?_ | refine C_cond_t rfl ?_ | refine C_cond_f rfl ?_ | refine Q_block_on rfl ?_
      refine ⟨k + 1, ⟨rfl, ⟨rfl, rfl, ?_, trivial⟩, ⟨by omega, k2.trans kd, hf⟩⟩, by omega⟩
      show Value.int .i64 ((k : Int) + 1) = _
      rw [Int.natCast_add]; rfl
  · (refine C_region ?_
     <;> (first | refine M_int rfl ?_ | refine W_move ?_)
     <;> (first | refine M_slice rfl ?_ | refine W_move ?_)
     <;> refine W_len rfl ?_
     <;> (refine W_lss rfl rfl (fun hc => ?_) (fun hc => ?_) <;> try (exfalso; omega))
     <;> refine W_nil ?_)
    repeat' first | refine nx ?_ | refine C_cond_t rfl ?_ | refine C_cond_f rfl ?_ | refine Q_block_on rfl ?_
    (refine C_region ?_
     <;> (refine M_assign ?_; (first | refine M_str rfl ?_ | refine W_move ?_))
     <;> refine W_nil ?_)
    repeat' first | refine nx ?_ | refine C_cond_t rfl ?_ | refine C_cond_f rfl ?_ | refine Q_block_on rfl ?_
    have hd : symsL.drop k = [] := List.drop_eq_nil_of_le (by show 15 ≤ k; omega)
    rw [hd] at hf
    exact fin_ret1 rfl ⟨by unfold symW; rw [hf]; rfl, k1.trans k2⟩

/-- the next token: kind, length, whether it is right -/
def nextM (u : List UInt8) : Int × Nat × Bool :=
  if isLet (u.getD 0 0) = true then (1, whileB inName u 1, decide (whileB inName u 1 ≤ 20))
  else if isDig (u.getD 0 0) = true then (2, whileB isDig u 0, !numBad u 0)
  else (3, (symW u).length, !decide (symW u = []))
end Go.Proofs.YtmnhnbpnjepkbaaGreatDoor

namespace Go.Proofs.YtmnhnbpnjepkbaaGreatDoor
open Go.RowKit
set_option linter.unusedVariables false

theorem rnext_ok (u : List UInt8) (w : World) (h1 : 1 ≤ u.length) (h6 : u.length ≤ 1000000) : Fn Tryz.prog 37 [strV u] w fun v w' => Ext w w' ∧ v = .tuple #[.agg #[.int .i64 (nextM u).1, strV (u.take (nextM u).2.1), .int .i64 0], .bool (nextM u).2.2] := by
  have hc0 : u[0]? = some u[0] := List.getElem?_eq_getElem (by omega)
  generalize u[0] = c at hc0
  have hgd : u.getD 0 0 = c := by simp [List.getD_eq_getElem?_getD, hc0]
  have cb := c.toNat_lt
  refine fn_of_wc Tryz.func37 rfl Tryz.ntmps37 (Nat.le_of_ble_eq_true rfl) (by kernel_rfl) ?_
  repeat' first | refine nx ?_ | refine C_cond_t rfl ?_ | refine C_cond_f rfl ?_ | refine Q_block_on rfl ?_
  (refine C_region ?_)
  -- at operation 0: <dst=(some 2) op=(alloc 32) type=0 guard=none>
  refine W_alloc (fun w1 n1 => ?_)
  have b1 : Blk w1 w.heap.size 32 [.int .i64 0, strV [], .int .i64 0] := n1.blk
  ((refine M_assign ?_; (first | refine M_bool rfl ?_ | refine W_move ?_))
   <;> refine W_nil ?_)
  repeat' first | refine nx ?_ | refine C_cond_t rfl ?_ | refine C_cond_f rfl ?_ | refine Q_block_on rfl ?_
  (refine C_region ?_
   <;> (refine M_assign ?_; (first | refine M_int rfl ?_ | refine W_move ?_))
   <;> refine W_nil ?_)
  repeat' first | refine nx ?_ | refine C_cond_t rfl ?_ | refine C_cond_f rfl ?_ | refine Q_block_on rfl ?_
  refine C_mid (α := Unit) (fun _ => [(0, strV u), (2, pt w.heap.size), (3, .bool false), (4, .int .i64 0), (19, .bool (isLet c))]) (fun _ W => W = w1) ?_ ?_
  · by_cases hs : 97 ≤ c.toNat ∧ c.toNat ≤ 122
    · have hsm : isSmall c = true := by simp [isSmall, hs.1, hs.2]
      (refine C_region ?_
       <;> (first | refine M_str rfl ?_ | refine W_move ?_)
       <;> (first | refine W_sidx rfl rfl (by assumption) ?_ | refine W_sidx (j := 0) rfl rfl (by assumption) ?_)
       <;> (refine W_geq rfl rfl (fun hc => ?_) (fun hc => ?_) <;> try (exfalso; omega))
       <;> (first | refine M_bool rfl ?_ | refine W_move ?_)
       <;> (first | refine W_no rfl ?_ | (refine W_yes rfl ?_; (first | refine M_str rfl ?_ | refine W_move ?_)))
       <;> (first | refine W_no rfl ?_ | (refine W_yes rfl ?_; (first | refine W_sidx rfl rfl (by assumption) ?_ | refine W_sidx (j := 0) rfl rfl (by assumption) ?_)))
       <;> (first | refine W_no rfl ?_ | (refine W_yes rfl ?_; (refine W_leq rfl rfl (fun hc => ?_) (fun hc => ?_) <;> try (exfalso; omega))))
       <;> ((first | refine M_pick_t rfl ?_ | refine M_pick_f rfl ?_); (first | refine M_bool rfl ?_ | refine W_move ?_))
       <;> (first | refine M_bool rfl ?_ | refine W_move ?_)
       <;> (first | refine W_no rfl ?_ | (refine W_yes rfl ?_; (first | refine M_str rfl ?_ | refine W_move ?_)))
       <;> (first | refine W_no rfl ?_ | (refine W_yes rfl ?_; (first | refine W_sidx rfl rfl (by assumption) ?_ | refine W_sidx (j := 0) rfl rfl (by assumption) ?_))))
      -- at operation 11: <dst=(some 18) op=(call <callee=(value (func 53)) args=[(tmp 17)] argTypes=[5]>) type=4 guard=(some [8, false])>
      (refine W_no rfl ?_
       <;> ((first | refine M_pick_t rfl ?_ | refine M_pick_f rfl ?_); (first | refine M_bool rfl ?_ | refine W_move ?_))
       <;> refine W_nil ?_)
      exact Q_join () ⟨rfl, rfl, rfl, rfl, by simp [upd, Nat.beq, isLet, hsm], trivial⟩ rfl
    · have hsm : isSmall c = false := by simp [isSmall]; omega
      (refine C_region ?_
       <;> (first | refine M_str rfl ?_ | refine W_move ?_)
       <;> (first | refine W_sidx rfl rfl (by assumption) ?_ | refine W_sidx (j := 0) rfl rfl (by assumption) ?_)
       <;> (refine W_geq rfl rfl (fun hc => ?_) (fun hc => ?_) <;> try (exfalso; omega))
       <;> (first | refine M_bool rfl ?_ | refine W_move ?_)
       <;> (first | refine W_no rfl ?_ | (refine W_yes rfl ?_; (first | refine M_str rfl ?_ | refine W_move ?_)))
       <;> (first | refine W_no rfl ?_ | (refine W_yes rfl ?_; (first | refine W_sidx rfl rfl (by assumption) ?_ | refine W_sidx (j := 0) rfl rfl (by assumption) ?_)))
       <;> (first | refine W_no rfl ?_ | (refine W_yes rfl ?_; (refine W_leq rfl rfl (fun hc => ?_) (fun hc => ?_) <;> try (exfalso; omega))))
       <;> ((first | refine M_pick_t rfl ?_ | refine M_pick_f rfl ?_); (first | refine M_bool rfl ?_ | refine W_move ?_))
       <;> (first | refine M_bool rfl ?_ | refine W_move ?_)
       <;> (first | refine W_no rfl ?_ | (refine W_yes rfl ?_; (first | refine M_str rfl ?_ | refine W_move ?_)))
       <;> (first | refine W_no rfl ?_ | (refine W_yes rfl ?_; (first | refine W_sidx rfl rfl (by assumption) ?_ | refine W_sidx (j := 0) rfl rfl (by assumption) ?_))))
      -- at operation 11: <dst=(some 18) op=(call <callee=(value (func 53)) args=[(tmp 17)] argTypes=[5]>) type=4 guard=(some [8, false])>
      all_goals
        (refine W_yes rfl ?_; refine W_call (rbig_ok c _) rfl ?_)
        rintro v w' ⟨rfl, rfl⟩
        (((first | refine M_pick_t rfl ?_ | refine M_pick_f rfl ?_); (first | refine M_bool rfl ?_ | refine W_move ?_))
         <;> refine W_nil ?_)
        exact Q_join () ⟨rfl, rfl, rfl, rfl, by simp [upd, Nat.beq, isLet, hsm], trivial⟩ rfl
  rintro _ w2 f2 rfl
  repeat' first | refine nx ?_ | refine C_cond_t rfl ?_ | refine C_cond_f rfl ?_ | refine Q_block_on rfl ?_
  cases hl : isLet c with
  | true =>
    repeat' first | refine nx ?_ | refine C_cond_t rfl ?_ | refine C_cond_f rfl ?_ | refine Q_block_on rfl ?_
    (refine C_region ?_
     <;> (refine M_assign ?_; (first | refine M_int rfl ?_ | refine W_move ?_))
     <;> refine W_nil ?_)
    repeat' first | refine nx ?_ | refine C_cond_t rfl ?_ | refine C_cond_f rfl ?_ | refine Q_block_on rfl ?_
    -- n goes on as long as the bytes are wanted
    refine C_loop (α := Nat) (fun n => [(0, strV u), (2, pt w.heap.size), (3, .bool false), (4, .int .i64 (n : Int))]) (fun n W => n ≤ u.length ∧ 1 ≤ n ∧ whileB inName u n = whileB inName u 1 ∧ W = w2) (fun n => u.length - n) 1 ⟨rfl, rfl, rfl, rfl, trivial⟩ ⟨by omega, Nat.le_refl _, rfl, rfl⟩ ?_
    rintro n w3 f3 ⟨hn, hn0, hw, rfl⟩
    repeat' first | refine nx ?_ | refine C_cond_t rfl ?_ | refine C_cond_f rfl ?_ | refine Q_block_on rfl ?_
    by_cases hlt : n < u.length
    · have hcn : u[n]? = some u[n] := List.getElem?_eq_getElem hlt
      generalize u[n] = d at hcn
      (refine C_region ?_
       <;> (first | refine M_int rfl ?_ | refine W_move ?_)
       <;> (first | refine M_str rfl ?_ | refine W_move ?_)
       <;> refine W_slen rfl ?_
       <;> (refine W_lss rfl rfl (fun hc => ?_) (fun hc => ?_) <;> try (exfalso; omega))
       <;> (first | refine M_bool rfl ?_ | refine W_move ?_)
       <;> (first | refine W_no rfl ?_ | (refine W_yes rfl ?_; (first | refine M_str rfl ?_ | refine W_move ?_)))
       <;> (first | refine W_no rfl ?_ | (refine W_yes rfl ?_; (first | refine M_int rfl ?_ | refine W_move ?_)))
       <;> (first | refine W_no rfl ?_ | (refine W_yes rfl ?_; (first | refine W_sidx rfl rfl (by assumption) ?_ | refine W_sidx (j := 0) rfl rfl (by assumption) ?_))))
      -- at operation 8: <dst=(some 28) op=(call <callee=(value (func 54)) args=[(tmp 27)] argTypes=[5]>) type=4 guard=(some [4, true])>
      (refine W_yes rfl ?_; refine W_call (rpart_ok d _) rfl ?_)
      rintro v w' ⟨rfl, rfl⟩
      (((first | refine M_pick_t rfl ?_ | refine M_pick_f rfl ?_); (first | refine M_bool rfl ?_ | refine W_move ?_))
       <;> refine W_nil ?_)
      cases hp : inName d with
      | true =>
        repeat' first | refine nx ?_ | refine C_cond_t rfl ?_ | refine C_cond_f rfl ?_ | refine Q_block_on rfl ?_
        (refine C_region ?_
         <;> (first | refine M_int rfl ?_ | refine W_move ?_)
         <;> refine W_add rfl rfl (by first | exact inR_i64 (by omega) (by omega) | exact inR_u8 (by omega) (by omega) | exact inR_u16 (by omega) (by omega)) ?_
         <;> (refine M_assign ?_; (first | refine M_int rfl ?_ | refine W_move ?_))
         <;> refine W_nil ?_)
        repeat' first | refine nx ?_ | refine C_cond_t rfl ?_ | refine C_cond_f rfl ?_ | refine Q_block_on rfl ?_
        refine ⟨n + 1, ⟨rfl, ⟨rfl, rfl, rfl, ?_, trivial⟩, ⟨by omega, by omega, (whileB_step hcn hp).symm.trans hw, rfl⟩⟩, by omega⟩
        show Value.int .i64 ((n : Int) + 1) = _
        rw [Int.natCast_add]; rfl
      | false =>
        have hwn := whileB_stop hcn hp
        repeat' first | refine nx ?_ | refine C_cond_t rfl ?_ | refine C_cond_f rfl ?_ | refine Q_block_on rfl ?_
        have hend : n = whileB inName u 1 := by omega
        have hwl := whileB_le (p := inName) (t := u) (a := 1) (by omega)
        rw [hend]
        by_cases h20 : whileB inName u 1 ≤ 20
        · (refine C_region ?_
           <;> (first | refine M_str rfl ?_ | refine W_move ?_)
           <;> (first | refine M_int rfl ?_ | refine W_move ?_)
           <;> refine W_sslice_h rfl rfl (by omega) ?_
           <;> refine W_build (by rfl) (by rfl) ?_
           <;> (first | refine M_int rfl ?_ | refine W_move ?_)
           <;> (refine W_leq rfl rfl (fun hc => ?_) (fun hc => ?_) <;> try (exfalso; omega)))
          -- at operation 6: <dst=none op=(store 32 (tmp 2) (tmp 35)) type=0 guard=none>
          refine W_store_agg (cs := [.int .i64 1, strV (u.take (whileB inName u 1)), .int .i64 0]) rfl rfl rfl (oneC_all rfl) b1 (by simp) (fun w4 p4 => ?_)
          have b4 : Blk w4 w.heap.size 32 [.int .i64 1, strV (u.take (whileB inName u 1)), .int .i64 0] := p4.blk
          ((refine M_assign ?_; (first | refine M_bool rfl ?_ | refine W_move ?_))
           <;> refine W_nil ?_)
          repeat' first | refine nx ?_ | refine C_cond_t rfl ?_ | refine C_cond_f rfl ?_ | refine Q_block_on rfl ?_
          refine fin_retA1 rfl rfl rfl b4.cells ⟨n1.keep.keep p4.keep (by simp), ?_⟩
          unfold nextM
          rw [hgd, if_pos hl, decide_eq_true h20]; rfl
        · (refine C_region ?_
           <;> (first | refine M_str rfl ?_ | refine W_move ?_)
           <;> (first | refine M_int rfl ?_ | refine W_move ?_)
           <;> refine W_sslice_h rfl rfl (by omega) ?_
           <;> refine W_build (by rfl) (by rfl) ?_
           <;> (first | refine M_int rfl ?_ | refine W_move ?_)
           <;> (refine W_leq rfl rfl (fun hc => ?_) (fun hc => ?_) <;> try (exfalso; omega)))
          -- at operation 6: <dst=none op=(store 32 (tmp 2) (tmp 35)) type=0 guard=none>
          refine W_store_agg (cs := [.int .i64 1, strV (u.take (whileB inName u 1)), .int .i64 0]) rfl rfl rfl (oneC_all rfl) b1 (by simp) (fun w4 p4 => ?_)
          have b4 : Blk w4 w.heap.size 32 [.int .i64 1, strV (u.take (whileB inName u 1)), .int .i64 0] := p4.blk
          ((refine M_assign ?_; (first | refine M_bool rfl ?_ | refine W_move ?_))
           <;> refine W_nil ?_)
          repeat' first | refine nx ?_ | refine C_cond_t rfl ?_ | refine C_cond_f rfl ?_ | refine Q_block_on rfl ?_
          refine fin_retA1 rfl rfl rfl b4.cells ⟨n1.keep.keep p4.keep (by simp), ?_⟩
          unfold nextM
          rw [hgd, if_pos hl, decide_eq_false h20]; rfl
    · obtain rfl : n = u.length := by omega
      have hwn := whileB_end (p := inName) (t := u) (a := u.length) (by omega)
      have hend : u.length = whileB inName u 1 := by omega
      (refine C_region ?_
       <;> (first | refine M_int rfl ?_ | refine W_move ?_)
       <;> (first | refine M_str rfl ?_ | refine W_move ?_)
       <;> refine W_slen rfl ?_
       <;> (refine W_lss rfl rfl (fun hc => ?_) (fun hc => ?_) <;> try (exfalso; omega))
       <;> (first | refine M_bool rfl ?_ | refine W_move ?_)
       <;> (first | refine W_no rfl ?_ | (refine W_yes rfl ?_; (first | refine M_str rfl ?_ | refine W_move ?_)))
       <;> (first | refine W_no rfl ?_ | (refine W_yes rfl ?_; (first | refine M_int rfl ?_ | refine W_move ?_)))
       <;> (first | refine W_no rfl ?_ | (refine W_yes rfl ?_; (first | refine W_sidx rfl rfl (by assumption) ?_ | refine W_sidx (j := 0) rfl rfl (by assumption) ?_))))
      -- at operation 8: <dst=(some 28) op=(call <callee=(value (func 54)) args=[(tmp 27)] argTypes=[5]>) type=4 guard=(some [4, true])>
      (refine W_no rfl ?_
       <;> ((first | refine M_pick_t rfl ?_ | refine M_pick_f rfl ?_); (first | refine M_bool rfl ?_ | refine W_move ?_))
       <;> refine W_nil ?_)
      repeat' first | refine nx ?_ | refine C_cond_t rfl ?_ | refine C_cond_f rfl ?_ | refine Q_block_on rfl ?_
      have hwl := whileB_le (p := inName) (t := u) (a := 1) (by omega)
      rw [hend]
      by_cases h20 : whileB inName u 1 ≤ 20
      · (refine C_region ?_
         <;> (first | refine M_str rfl ?_ | refine W_move ?_)
         <;> (first | refine M_int rfl ?_ | refine W_move ?_)
         <;> refine W_sslice_h rfl rfl (by omega) ?_
         <;> refine W_build (by rfl) (by rfl) ?_
         <;> (first | refine M_int rfl ?_ | refine W_move ?_)
         <;> (refine W_leq rfl rfl (fun hc => ?_) (fun hc => ?_) <;> try (exfalso; omega)))
        -- at operation 6: <dst=none op=(store 32 (tmp 2) (tmp 35)) type=0 guard=none>
        refine W_store_agg (cs := [.int .i64 1, strV (u.take (whileB inName u 1)), .int .i64 0]) rfl rfl rfl (oneC_all rfl) b1 (by simp) (fun w4 p4 => ?_)
        have b4 : Blk w4 w.heap.size 32 [.int .i64 1, strV (u.take (whileB inName u 1)), .int .i64 0] := p4.blk
        ((refine M_assign ?_; (first | refine M_bool rfl ?_ | refine W_move ?_))
         <;> refine W_nil ?_)
        repeat' first | refine nx ?_ | refine C_cond_t rfl ?_ | refine C_cond_f rfl ?_ | refine Q_block_on rfl ?_
        refine fin_retA1 rfl rfl rfl b4.cells ⟨n1.keep.keep p4.keep (by simp), ?_⟩
        unfold nextM
        rw [hgd, if_pos hl, decide_eq_true h20]; rfl
      · (refine C_region ?_
         <;> (first | refine M_str rfl ?_ | refine W_move ?_)
         <;> (first | refine M_int rfl ?_ | refine W_move ?_)
         <;> refine W_sslice_h rfl rfl (by omega) ?_
         <;> refine W_build (by rfl) (by rfl) ?_
         <;> (first | refine M_int rfl ?_ | refine W_move ?_)
         <;> (refine W_leq rfl rfl (fun hc => ?_) (fun hc => ?_) <;> try (exfalso; omega)))
        -- at operation 6: <dst=none op=(store 32 (tmp 2) (tmp 35)) type=0 guard=none>
        refine W_store_agg (cs := [.int .i64 1, strV (u.take (whileB inName u 1)), .int .i64 0]) rfl rfl rfl (oneC_all rfl) b1 (by simp) (fun w4 p4 => ?_)
        have b4 : Blk w4 w.heap.size 32 [.int .i64 1, strV (u.take (whileB inName u 1)), .int .i64 0] := p4.blk
        ((refine M_assign ?_; (first | refine M_bool rfl ?_ | refine W_move ?_))
         <;> refine W_nil ?_)
        repeat' first | refine nx ?_ | refine C_cond_t rfl ?_ | refine C_cond_f rfl ?_ | refine Q_block_on rfl ?_
        refine fin_retA1 rfl rfl rfl b4.cells ⟨n1.keep.keep p4.keep (by simp), ?_⟩
        unfold nextM
        rw [hgd, if_pos hl, decide_eq_false h20]; rfl
  | false =>
    repeat' first | refine nx ?_ | refine C_cond_t rfl ?_ | refine C_cond_f rfl ?_ | refine Q_block_on rfl ?_
    (refine C_region ?_
     <;> (first | refine M_str rfl ?_ | refine W_move ?_)
     <;> (first | refine W_sidx rfl rfl (by assumption) ?_ | refine W_sidx (j := 0) rfl rfl (by assumption) ?_))
    -- at operation 2: <dst=(some 40) op=(call <callee=(value (func 55)) args=[(tmp 39)] argTypes=[5]>) type=4 guard=none>
    refine W_call (rdig_ok c _) rfl ?_
    rintro v w' ⟨rfl, rfl⟩
    refine W_nil ?_
    cases hd : isDig c with
    | true =>
      repeat' first | refine nx ?_ | refine C_cond_t rfl ?_ | refine C_cond_f rfl ?_ | refine Q_block_on rfl ?_
      -- n goes on as long as the bytes are wanted
      refine C_loop (α := Nat) (fun n => [(0, strV u), (2, pt w.heap.size), (3, .bool false), (4, .int .i64 (n : Int))]) (fun n W => n ≤ u.length ∧ 0 ≤ n ∧ whileB isDig u n = whileB isDig u 0 ∧ W = w') (fun n => u.length - n) 0 ⟨rfl, rfl, rfl, rfl, trivial⟩ ⟨by omega, Nat.le_refl _, rfl, rfl⟩ ?_
      rintro n w3 f3 ⟨hn, hn0, hw, rfl⟩
      repeat' first | refine nx ?_ | refine C_cond_t rfl ?_ | refine C_cond_f rfl ?_ | refine Q_block_on rfl ?_
      by_cases hlt : n < u.length
      · have hcn : u[n]? = some u[n] := List.getElem?_eq_getElem hlt
        generalize u[n] = d at hcn
        (refine C_region ?_
         <;> (first | refine M_int rfl ?_ | refine W_move ?_)
         <;> (first | refine M_str rfl ?_ | refine W_move ?_)
         <;> refine W_slen rfl ?_
         <;> (refine W_lss rfl rfl (fun hc => ?_) (fun hc => ?_) <;> try (exfalso; omega))
         <;> (first | refine M_bool rfl ?_ | refine W_move ?_)
         <;> (first | refine W_no rfl ?_ | (refine W_yes rfl ?_; (first | refine M_str rfl ?_ | refine W_move ?_)))
         <;> (first | refine W_no rfl ?_ | (refine W_yes rfl ?_; (first | refine M_int rfl ?_ | refine W_move ?_)))
         <;> (first | refine W_no rfl ?_ | (refine W_yes rfl ?_; (first | refine W_sidx rfl rfl (by assumption) ?_ | refine W_sidx (j := 0) rfl rfl (by assumption) ?_))))
        -- at operation 8: <dst=(some 49) op=(call <callee=(value (func 55)) args=[(tmp 48)] argTypes=[5]>) type=4 guard=(some [4, true])>
        (refine W_yes rfl ?_; refine W_call (rdig_ok d _) rfl ?_)
        rintro v w' ⟨rfl, rfl⟩
        (((first | refine M_pick_t rfl ?_ | refine M_pick_f rfl ?_); (first | refine M_bool rfl ?_ | refine W_move ?_))
         <;> refine W_nil ?_)
        cases hp : isDig d with
        | true =>
          repeat' first | refine nx ?_ | refine C_cond_t rfl ?_ | refine C_cond_f rfl ?_ | refine Q_block_on rfl ?_
          (refine C_region ?_
           <;> (first | refine M_int rfl ?_ | refine W_move ?_)
           <;> refine W_add rfl rfl (by first | exact inR_i64 (by omega) (by omega) | exact inR_u8 (by omega) (by omega) | exact inR_u16 (by omega) (by omega)) ?_
           <;> (refine M_assign ?_; (first | refine M_int rfl ?_ | refine W_move ?_))
           <;> refine W_nil ?_)
          repeat' first | refine nx ?_ | refine C_cond_t rfl ?_ | refine C_cond_f rfl ?_ | refine Q_block_on rfl ?_
          refine ⟨n + 1, ⟨rfl, ⟨rfl, rfl, rfl, ?_, trivial⟩, ⟨by omega, by omega, (whileB_step hcn hp).symm.trans hw, rfl⟩⟩, by omega⟩
          show Value.int .i64 ((n : Int) + 1) = _
          rw [Int.natCast_add]; rfl
        | false =>
          have hwn := whileB_stop hcn hp
          repeat' first | refine nx ?_ | refine C_cond_t rfl ?_ | refine C_cond_f rfl ?_ | refine Q_block_on rfl ?_
          have hend : n = whileB isDig u 0 := by omega
          have hwl := whileB_le (p := isDig) (t := u) (a := 0) (by omega)
          have hge1 : 1 ≤ whileB isDig u 0 := by
            have h1 := whileB_step (p := isDig) hc0 hd
            have h2 := whileB_ge isDig u (0 + 1)
            omega
          have hnx : nextM u = (2, whileB isDig u 0, !numBad u 0) := by
            unfold nextM
            rw [hgd, hl, hd]; rfl
          rw [hend]
          clear hend hwn hw
          generalize hN : whileB isDig u 0 = N at hwl hge1 hnx
          have hnb : numBad u 0 = (decide (4 < N) || (decide (1 < N) && decide (c.toNat = 48)) || (decide (N < u.length) && (isLet (u.getD N 0) || decide ((u.getD N 0).toNat = 95)))) := by
            unfold numBad
            rw [hN, hgd, Nat.sub_zero]
          refine C_mid (α := Unit) (fun _ => [(0, strV u), (2, pt w.heap.size), (3, .bool false), (4, .int .i64 (N : Int)), (5, .bool (decide (N < u.length) && (isLet (u.getD N 0) || decide ((u.getD N 0).toNat = 95))))]) (fun _ W => Ext w W ∧ Blk W w.heap.size 32 [.int .i64 0, strV [], .int .i64 0]) ?_ ?_
          · by_cases hlt : N < u.length
            · have hcn : u[N]? = some u[N] := List.getElem?_eq_getElem hlt
              generalize u[N] = d at hcn
              have hgn : u.getD N 0 = d := by simp [List.getD_eq_getElem?_getD, hcn]
              rw [hgn, decide_eq_true hlt, Bool.true_and]
              (refine C_region ?_
               <;> (first | refine M_int rfl ?_ | refine W_move ?_)
               <;> (first | refine M_str rfl ?_ | refine W_move ?_)
               <;> refine W_slen rfl ?_
               <;> (refine W_lss rfl rfl (fun hc => ?_) (fun hc => ?_) <;> try (exfalso; omega))
               <;> (first | refine M_bool rfl ?_ | refine W_move ?_)
               <;> (first | refine W_no rfl ?_ | (refine W_yes rfl ?_; (first | refine M_str rfl ?_ | refine W_move ?_)))
               <;> (first | refine W_no rfl ?_ | (refine W_yes rfl ?_; (first | refine M_int rfl ?_ | refine W_move ?_)))
               <;> (first | refine W_no rfl ?_ | (refine W_yes rfl ?_; (first | refine W_sidx rfl rfl (by assumption) ?_ | refine W_sidx (j := 0) rfl rfl (by assumption) ?_))))
              -- at operation 8: <dst=(some 61) op=(call <callee=(value (func 56)) args=[(tmp 60)] argTypes=[5]>) type=4 guard=(some [4, true])>
              (refine W_yes rfl ?_; refine W_call (rsmall_ok d _) rfl ?_)
              rintro v w' ⟨rfl, rfl⟩
              cases hsd : isSmall d with
              | true =>
                ((first | refine W_no rfl ?_ | (refine W_yes rfl ?_; (first | refine M_bool rfl ?_ | refine W_move ?_)))
                 <;> (first | refine W_no rfl ?_ | (refine W_yes rfl ?_; (first | refine M_str rfl ?_ | refine W_move ?_)))
                 <;> (first | refine W_no rfl ?_ | (refine W_yes rfl ?_; (first | refine M_int rfl ?_ | refine W_move ?_)))
                 <;> (first | refine W_no rfl ?_ | (refine W_yes rfl ?_; (first | refine W_sidx rfl rfl (by assumption) ?_ | refine W_sidx (j := 0) rfl rfl (by assumption) ?_)))
                 <;> refine W_no rfl ?_
                 <;> (first | refine W_no rfl ?_ | (refine W_yes rfl ?_; ((first | refine M_pick_t rfl ?_ | refine M_pick_f rfl ?_); (first | refine M_bool rfl ?_ | refine W_move ?_))))
                 <;> (first | refine W_no rfl ?_ | (refine W_yes rfl ?_; (first | refine M_bool rfl ?_ | refine W_move ?_)))
                 <;> (first | refine W_no rfl ?_ | (refine W_yes rfl ?_; (first | refine M_str rfl ?_ | refine W_move ?_)))
                 <;> (first | refine W_no rfl ?_ | (refine W_yes rfl ?_; (first | refine M_int rfl ?_ | refine W_move ?_)))
                 <;> (first | refine W_no rfl ?_ | (refine W_yes rfl ?_; (first | refine W_sidx rfl rfl (by assumption) ?_ | refine W_sidx (j := 0) rfl rfl (by assumption) ?_)))
                 <;> (first | refine W_no rfl ?_ | (refine W_yes rfl ?_; (refine W_eql rfl rfl (fun hc => ?_) (fun hc => ?_) <;> try (exfalso; omega))))
                 <;> (first | refine W_no rfl ?_ | (refine W_yes rfl ?_; ((first | refine M_pick_t rfl ?_ | refine M_pick_f rfl ?_); (first | refine M_bool rfl ?_ | refine W_move ?_))))
                 <;> ((first | refine M_pick_t rfl ?_ | refine M_pick_f rfl ?_); (first | refine M_bool rfl ?_ | refine W_move ?_))
                 <;> (refine M_assign ?_; (first | refine M_bool rfl ?_ | refine W_move ?_))
                 <;> refine W_nil ?_)
                exact Q_join () ⟨rfl, rfl, rfl, rfl, by simp [upd, Nat.beq, isLet, hsd], trivial⟩ ⟨n1.keep, b1⟩
              | false =>
                ((first | refine W_no rfl ?_ | (refine W_yes rfl ?_; (first | refine M_bool rfl ?_ | refine W_move ?_)))
                 <;> (first | refine W_no rfl ?_ | (refine W_yes rfl ?_; (first | refine M_str rfl ?_ | refine W_move ?_)))
                 <;> (first | refine W_no rfl ?_ | (refine W_yes rfl ?_; (first | refine M_int rfl ?_ | refine W_move ?_)))
                 <;> (first | refine W_no rfl ?_ | (refine W_yes rfl ?_; (first | refine W_sidx rfl rfl (by assumption) ?_ | refine W_sidx (j := 0) rfl rfl (by assumption) ?_))))
                -- at operation 13: <dst=(some 66) op=(call <callee=(value (func 53)) args=[(tmp 65)] argTypes=[5]>) type=4 guard=(some [9, false])>
                (refine W_yes rfl ?_; refine W_call (rbig_ok d _) rfl ?_)
                rintro v w' ⟨rfl, rfl⟩
                cases hud : isUp d with
                | true =>
                  ((first | refine W_no rfl ?_ | (refine W_yes rfl ?_; ((first | refine M_pick_t rfl ?_ | refine M_pick_f rfl ?_); (first | refine M_bool rfl ?_ | refine W_move ?_))))
                   <;> (first | refine W_no rfl ?_ | (refine W_yes rfl ?_; (first | refine M_bool rfl ?_ | refine W_move ?_)))
                   <;> (first | refine W_no rfl ?_ | (refine W_yes rfl ?_; (first | refine M_str rfl ?_ | refine W_move ?_)))
                   <;> (first | refine W_no rfl ?_ | (refine W_yes rfl ?_; (first | refine M_int rfl ?_ | refine W_move ?_)))
                   <;> (first | refine W_no rfl ?_ | (refine W_yes rfl ?_; (first | refine W_sidx rfl rfl (by assumption) ?_ | refine W_sidx (j := 0) rfl rfl (by assumption) ?_)))
                   <;> (first | refine W_no rfl ?_ | (refine W_yes rfl ?_; (refine W_eql rfl rfl (fun hc => ?_) (fun hc => ?_) <;> try (exfalso; omega))))
                   <;> (first | refine W_no rfl ?_ | (refine W_yes rfl ?_; ((first | refine M_pick_t rfl ?_ | refine M_pick_f rfl ?_); (first | refine M_bool rfl ?_ | refine W_move ?_))))
                   <;> ((first | refine M_pick_t rfl ?_ | refine M_pick_f rfl ?_); (first | refine M_bool rfl ?_ | refine W_move ?_))
                   <;> (refine M_assign ?_; (first | refine M_bool rfl ?_ | refine W_move ?_))
                   <;> refine W_nil ?_)
                  exact Q_join () ⟨rfl, rfl, rfl, rfl, by simp [upd, Nat.beq, isLet, hsd, hud], trivial⟩ ⟨n1.keep, b1⟩
                | false =>
                  ((first | refine W_no rfl ?_ | (refine W_yes rfl ?_; ((first | refine M_pick_t rfl ?_ | refine M_pick_f rfl ?_); (first | refine M_bool rfl ?_ | refine W_move ?_))))
                   <;> (first | refine W_no rfl ?_ | (refine W_yes rfl ?_; (first | refine M_bool rfl ?_ | refine W_move ?_)))
                   <;> (first | refine W_no rfl ?_ | (refine W_yes rfl ?_; (first | refine M_str rfl ?_ | refine W_move ?_)))
                   <;> (first | refine W_no rfl ?_ | (refine W_yes rfl ?_; (first | refine M_int rfl ?_ | refine W_move ?_)))
                   <;> (first | refine W_no rfl ?_ | (refine W_yes rfl ?_; (first | refine W_sidx rfl rfl (by assumption) ?_ | refine W_sidx (j := 0) rfl rfl (by assumption) ?_)))
                   <;> (first | refine W_no rfl ?_ | (refine W_yes rfl ?_; (refine W_eql rfl rfl (fun hc => ?_) (fun hc => ?_) <;> try (exfalso; omega))))
                   <;> (first | refine W_no rfl ?_ | (refine W_yes rfl ?_; ((first | refine M_pick_t rfl ?_ | refine M_pick_f rfl ?_); (first | refine M_bool rfl ?_ | refine W_move ?_))))
                   <;> ((first | refine M_pick_t rfl ?_ | refine M_pick_f rfl ?_); (first | refine M_bool rfl ?_ | refine W_move ?_))
                   <;> (refine M_assign ?_; (first | refine M_bool rfl ?_ | refine W_move ?_))
                   <;> refine W_nil ?_)
                  all_goals exact Q_join () ⟨rfl, rfl, rfl, rfl, by simp [upd, Nat.beq, isLet, hsd, hud]; omega, trivial⟩ ⟨n1.keep, b1⟩
            · rw [decide_eq_false hlt, Bool.false_and]
              (refine C_region ?_
               <;> (first | refine M_int rfl ?_ | refine W_move ?_)
               <;> (first | refine M_str rfl ?_ | refine W_move ?_)
               <;> refine W_slen rfl ?_
               <;> (refine W_lss rfl rfl (fun hc => ?_) (fun hc => ?_) <;> try (exfalso; omega))
               <;> (first | refine M_bool rfl ?_ | refine W_move ?_)
               <;> (first | refine W_no rfl ?_ | (refine W_yes rfl ?_; (first | refine M_str rfl ?_ | refine W_move ?_)))
               <;> (first | refine W_no rfl ?_ | (refine W_yes rfl ?_; (first | refine M_int rfl ?_ | refine W_move ?_)))
               <;> (first | refine W_no rfl ?_ | (refine W_yes rfl ?_; (first | refine W_sidx rfl rfl (by assumption) ?_ | refine W_sidx (j := 0) rfl rfl (by assumption) ?_))))
              -- at operation 8: <dst=(some 61) op=(call <callee=(value (func 56)) args=[(tmp 60)] argTypes=[5]>) type=4 guard=(some [4, true])>
              (refine W_no rfl ?_
               <;> (first | refine W_no rfl ?_ | (refine W_yes rfl ?_; (first | refine M_bool rfl ?_ | refine W_move ?_)))
               <;> (first | refine W_no rfl ?_ | (refine W_yes rfl ?_; (first | refine M_str rfl ?_ | refine W_move ?_)))
               <;> (first | refine W_no rfl ?_ | (refine W_yes rfl ?_; (first | refine M_int rfl ?_ | refine W_move ?_)))
               <;> (first | refine W_no rfl ?_ | (refine W_yes rfl ?_; (first | refine W_sidx rfl rfl (by assumption) ?_ | refine W_sidx (j := 0) rfl rfl (by assumption) ?_)))
               <;> refine W_no rfl ?_
               <;> (first | refine W_no rfl ?_ | (refine W_yes rfl ?_; ((first | refine M_pick_t rfl ?_ | refine M_pick_f rfl ?_); (first | refine M_bool rfl ?_ | refine W_move ?_))))
               <;> (first | refine W_no rfl ?_ | (refine W_yes rfl ?_; (first | refine M_bool rfl ?_ | refine W_move ?_)))
               <;> (first | refine W_no rfl ?_ | (refine W_yes rfl ?_; (first | refine M_str rfl ?_ | refine W_move ?_)))
               <;> (first | refine W_no rfl ?_ | (refine W_yes rfl ?_; (first | refine M_int rfl ?_ | refine W_move ?_)))
               <;> (first | refine W_no rfl ?_ | (refine W_yes rfl ?_; (first | refine W_sidx rfl rfl (by assumption) ?_ | refine W_sidx (j := 0) rfl rfl (by assumption) ?_)))
               <;> (first | refine W_no rfl ?_ | (refine W_yes rfl ?_; (refine W_eql rfl rfl (fun hc => ?_) (fun hc => ?_) <;> try (exfalso; omega))))
               <;> (first | refine W_no rfl ?_ | (refine W_yes rfl ?_; ((first | refine M_pick_t rfl ?_ | refine M_pick_f rfl ?_); (first | refine M_bool rfl ?_ | refine W_move ?_))))
               <;> ((first | refine M_pick_t rfl ?_ | refine M_pick_f rfl ?_); (first | refine M_bool rfl ?_ | refine W_move ?_))
               <;> (refine M_assign ?_; (first | refine M_bool rfl ?_ | refine W_move ?_))
               <;> refine W_nil ?_)
              exact Q_join () ⟨rfl, rfl, rfl, rfl, by simp [upd, Nat.beq], trivial⟩ ⟨n1.keep, b1⟩
          rintro _ w4 f4 ⟨k4, b4⟩
          repeat' first | refine nx ?_ | refine C_cond_t rfl ?_ | refine C_cond_f rfl ?_ | refine Q_block_on rfl ?_
          generalize (decide (N < u.length) && (isLet (u.getD N 0) || decide ((u.getD N 0).toNat = 95))) = glued at hnb
          refine C_drawN (.read 0 (.read 1 (.read 2 (.read 3 (.read 4 (.read 5 (.read 6 (.read 7 (.read 8 (.read 9 (.read 10 (.read 11 (.read 12 (.read 13 (.read 14 (.read 15 (.read 16 (.read 17 (.read 18 (.alt 19 (.read 20 .done) .stop)))))))))))))))))))) mixed (by kernel_rfl) (fun wd kd ed => ⟨Keep [w.heap.size] w4, ?_, ?_⟩)
          · exact kd.any
          have b5 := b4.keep kd (by simp)
          have hfin : ∀ r : Bool, r = !numBad u 0 → ∀ (f : Fr) (w6 : World), Put wd w6 w.heap.size 32 [.int .i64 2, strV (u.take N), .int .i64 0] → f 2 = pt w.heap.size → f 3 = .bool r →
              finQ Tryz.prog Tryz.f37 (fun v w' => Ext w w' ∧ v = .tuple #[.agg #[.int .i64 (nextM u).1, strV (u.take (nextM u).2.1), .int .i64 0], .bool (nextM u).2.2]) (fun _ _ => False) .ret f [] w6 := by
            rintro r rfl f w6 p6 e2 e3
            refine fin_retA1 rfl e2 rfl p6.blk.cells ⟨(k4.trans kd).keep p6.keep (by simp), ?_⟩
            rw [hnx, e3]
          cases glued <;> by_cases h4 : N ≤ 4 <;> by_cases hN1 : N = 1 <;> by_cases h48 : c.toNat = 48
          all_goals try (exfalso; omega)
          all_goals
            ((apply D_R rfl rfl; (intro W hW; (first | refine M_str rfl ?_ | refine W_move ?_); exact W_nil ⟨rfl, rfl, rfl⟩))
             <;> (apply D_R rfl rfl; (intro W hW; (first | refine M_int rfl ?_ | refine W_move ?_); exact W_nil ⟨rfl, rfl, rfl⟩))
             <;> (apply D_R rfl rfl; (intro W hW; refine W_sslice_h rfl rfl (by omega) ?_; exact W_nil ⟨rfl, rfl, rfl⟩))
             <;> (apply D_R rfl rfl; (intro W hW; refine W_build (by rfl) (by rfl) ?_; exact W_nil ⟨rfl, rfl, rfl⟩))
             <;> (apply D_R rfl rfl; (intro W hW; (first | refine M_int rfl ?_ | refine W_move ?_); exact W_nil ⟨rfl, rfl, rfl⟩))
             <;> (refine D_leq rfl rfl rfl rfl (fun hc => ?_) (fun hc => ?_) <;> try (exfalso; omega))
             <;> (apply D_R rfl rfl; (intro W hW; (first | refine M_bool rfl ?_ | refine W_move ?_); exact W_nil ⟨rfl, rfl, rfl⟩))
             <;> (first | refine D_skip rfl rfl rfl rfl ?_ | (apply D_R rfl rfl; (intro W hW; refine W_no rfl ?_; exact W_nil ⟨rfl, rfl, rfl⟩)) | (apply D_R rfl rfl; (intro W hW; (refine W_yes rfl ?_; (first | refine M_bool rfl ?_ | refine W_move ?_)); exact W_nil ⟨rfl, rfl, rfl⟩)))
             <;> (first | refine D_skip rfl rfl rfl rfl ?_ | (apply D_R rfl rfl; (intro W hW; refine W_no rfl ?_; exact W_nil ⟨rfl, rfl, rfl⟩)) | (apply D_R rfl rfl; (intro W hW; (refine W_yes rfl ?_; refine W_not rfl ?_); exact W_nil ⟨rfl, rfl, rfl⟩)))
             <;> (apply D_R rfl rfl; (intro W hW; ((first | refine M_pick_t rfl ?_ | refine M_pick_f rfl ?_); (first | refine M_bool rfl ?_ | refine W_move ?_)); exact W_nil ⟨rfl, rfl, rfl⟩))
             <;> (apply D_R rfl rfl; (intro W hW; (first | refine M_bool rfl ?_ | refine W_move ?_); exact W_nil ⟨rfl, rfl, rfl⟩))
             <;> (first | refine D_skip rfl rfl rfl rfl ?_ | (apply D_R rfl rfl; (intro W hW; refine W_no rfl ?_; exact W_nil ⟨rfl, rfl, rfl⟩)) | (apply D_R rfl rfl; (intro W hW; (refine W_yes rfl ?_; (first | refine M_int rfl ?_ | refine W_move ?_)); exact W_nil ⟨rfl, rfl, rfl⟩)))
             <;> (first | refine D_skip rfl rfl rfl rfl ?_ | (apply D_R rfl rfl; (intro W hW; refine W_no rfl ?_; exact W_nil ⟨rfl, rfl, rfl⟩)) | (refine D_eql rfl rfl rfl rfl (fun hc => ?_) (fun hc => ?_) <;> try (exfalso; omega)))
             <;> (first | refine D_skip rfl rfl rfl rfl ?_ | (apply D_R rfl rfl; (intro W hW; refine W_no rfl ?_; exact W_nil ⟨rfl, rfl, rfl⟩)) | (apply D_R rfl rfl; (intro W hW; (refine W_yes rfl ?_; (first | refine M_bool rfl ?_ | refine W_move ?_)); exact W_nil ⟨rfl, rfl, rfl⟩)))
             <;> (first | refine D_skip rfl rfl rfl rfl ?_ | (apply D_R rfl rfl; (intro W hW; refine W_no rfl ?_; exact W_nil ⟨rfl, rfl, rfl⟩)) | (apply D_R rfl rfl; (intro W hW; (refine W_yes rfl ?_; (first | refine M_str rfl ?_ | refine W_move ?_)); exact W_nil ⟨rfl, rfl, rfl⟩)))
             <;> (first | refine D_skip rfl rfl rfl rfl ?_ | (apply D_R rfl rfl; (intro W hW; refine W_no rfl ?_; exact W_nil ⟨rfl, rfl, rfl⟩)) | (apply D_R rfl rfl; (intro W hW; (refine W_yes rfl ?_; (first | refine W_sidx rfl rfl (by assumption) ?_ | refine W_sidx (j := 0) rfl rfl (by assumption) ?_)); exact W_nil ⟨rfl, rfl, rfl⟩)))
             <;> (first | refine D_skip rfl rfl rfl rfl ?_ | (apply D_R rfl rfl; (intro W hW; refine W_no rfl ?_; exact W_nil ⟨rfl, rfl, rfl⟩)) | (refine D_neq rfl rfl rfl rfl (fun hc => ?_) (fun hc => ?_) <;> try (exfalso; omega)))
             <;> (first | refine D_skip rfl rfl rfl rfl ?_ | (apply D_R rfl rfl; (intro W hW; refine W_no rfl ?_; exact W_nil ⟨rfl, rfl, rfl⟩)) | (apply D_R rfl rfl; (intro W hW; (refine W_yes rfl ?_; ((first | refine M_pick_t rfl ?_ | refine M_pick_f rfl ?_); (first | refine M_bool rfl ?_ | refine W_move ?_))); exact W_nil ⟨rfl, rfl, rfl⟩)))
             <;> (apply D_R rfl rfl; (intro W hW; ((first | refine M_pick_t rfl ?_ | refine M_pick_f rfl ?_); (first | refine M_bool rfl ?_ | refine W_move ?_)); exact W_nil ⟨rfl, rfl, rfl⟩)))
            -- at place 19, operation 19: <dst=none op=(store 32 (tmp 2) (tmp 78)) type=0 guard=none>
            refine D_E rfl ?_
            refine W_store_agg (cs := [.int .i64 2, strV (u.take N), .int .i64 0]) rfl rfl rfl (oneC_all rfl) b5 (by simp) (fun w6 p6 => ?_)
            refine W_nil ⟨fun W => W = w6, fun W hW => hW ▸ (kd.any.trans p6.keep (by simp)), rfl, ?_⟩
            ((apply D_R rfl rfl; (intro W hW; subst hW; (refine M_assign ?_; (first | refine M_bool rfl ?_ | refine W_move ?_)); exact W_nil ⟨rfl, rfl, rfl⟩))
             <;> refine D_nil ?_)
            repeat' first | refine nx ?_ | refine C_cond_t rfl ?_ | refine C_cond_f rfl ?_ | refine Q_block_on rfl ?_
            refine hfin _ ?_ _ w6 p6 rfl rfl
            rw [hnb]
            simp [upd, Nat.beq, h4, hN1, h48] <;> omega
      · obtain rfl : n = u.length := by omega
        have hwn := whileB_end (p := isDig) (t := u) (a := u.length) (by omega)
        have hend : u.length = whileB isDig u 0 := by omega
        (refine C_region ?_
         <;> (first | refine M_int rfl ?_ | refine W_move ?_)
         <;> (first | refine M_str rfl ?_ | refine W_move ?_)
         <;> refine W_slen rfl ?_
         <;> (refine W_lss rfl rfl (fun hc => ?_) (fun hc => ?_) <;> try (exfalso; omega))
         <;> (first | refine M_bool rfl ?_ | refine W_move ?_)
         <;> (first | refine W_no rfl ?_ | (refine W_yes rfl ?_; (first | refine M_str rfl ?_ | refine W_move ?_)))
         <;> (first | refine W_no rfl ?_ | (refine W_yes rfl ?_; (first | refine M_int rfl ?_ | refine W_move ?_)))
         <;> (first | refine W_no rfl ?_ | (refine W_yes rfl ?_; (first | refine W_sidx rfl rfl (by assumption) ?_ | refine W_sidx (j := 0) rfl rfl (by assumption) ?_))))
        -- at operation 8: <dst=(some 49) op=(call <callee=(value (func 55)) args=[(tmp 48)] argTypes=[5]>) type=4 guard=(some [4, true])>
        (refine W_no rfl ?_
         <;> ((first | refine M_pick_t rfl ?_ | refine M_pick_f rfl ?_); (first | refine M_bool rfl ?_ | refine W_move ?_))
         <;> refine W_nil ?_)
        repeat' first | refine nx ?_ | refine C_cond_t rfl ?_ | refine C_cond_f rfl ?_ | refine Q_block_on rfl ?_
        have hwl := whileB_le (p := isDig) (t := u) (a := 0) (by omega)
        have hge1 : 1 ≤ whileB isDig u 0 := by
          have h1 := whileB_step (p := isDig) hc0 hd
          have h2 := whileB_ge isDig u (0 + 1)
          omega
        have hnx : nextM u = (2, whileB isDig u 0, !numBad u 0) := by
          unfold nextM
          rw [hgd, hl, hd]; rfl
        rw [hend]
        clear hend hwn hw
        generalize hN : whileB isDig u 0 = N at hwl hge1 hnx
        have hnb : numBad u 0 = (decide (4 < N) || (decide (1 < N) && decide (c.toNat = 48)) || (decide (N < u.length) && (isLet (u.getD N 0) || decide ((u.getD N 0).toNat = 95)))) := by
          unfold numBad
          rw [hN, hgd, Nat.sub_zero]
        refine C_mid (α := Unit) (fun _ => [(0, strV u), (2, pt w.heap.size), (3, .bool false), (4, .int .i64 (N : Int)), (5, .bool (decide (N < u.length) && (isLet (u.getD N 0) || decide ((u.getD N 0).toNat = 95))))]) (fun _ W => Ext w W ∧ Blk W w.heap.size 32 [.int .i64 0, strV [], .int .i64 0]) ?_ ?_
        · by_cases hlt : N < u.length
          · have hcn : u[N]? = some u[N] := List.getElem?_eq_getElem hlt
            generalize u[N] = d at hcn
            have hgn : u.getD N 0 = d := by simp [List.getD_eq_getElem?_getD, hcn]
            rw [hgn, decide_eq_true hlt, Bool.true_and]
            (refine C_region ?_
             <;> (first | refine M_int rfl ?_ | refine W_move ?_)
             <;> (first | refine M_str rfl ?_ | refine W_move ?_)
             <;> refine W_slen rfl ?_
             <;> (refine W_lss rfl rfl (fun hc => ?_) (fun hc => ?_) <;> try (exfalso; omega))
             <;> (first | refine M_bool rfl ?_ | refine W_move ?_)
             <;> (first | refine W_no rfl ?_ | (refine W_yes rfl ?_; (first | refine M_str rfl ?_ | refine W_move ?_)))
             <;> (first | refine W_no rfl ?_ | (refine W_yes rfl ?_; (first | refine M_int rfl ?_ | refine W_move ?_)))
             <;> (first | refine W_no rfl ?_ | (refine W_yes rfl ?_; (first | refine W_sidx rfl rfl (by assumption) ?_ | refine W_sidx (j := 0) rfl rfl (by assumption) ?_))))
            -- at operation 8: <dst=(some 61) op=(call <callee=(value (func 56)) args=[(tmp 60)] argTypes=[5]>) type=4 guard=(some [4, true])>
            (refine W_yes rfl ?_; refine W_call (rsmall_ok d _) rfl ?_)
            rintro v w' ⟨rfl, rfl⟩
            cases hsd : isSmall d with
            | true =>
              ((first | refine W_no rfl ?_ | (refine W_yes rfl ?_; (first | refine M_bool rfl ?_ | refine W_move ?_)))
               <;> (first | refine W_no rfl ?_ | (refine W_yes rfl ?_; (first | refine M_str rfl ?_ | refine W_move ?_)))
               <;> (first | refine W_no rfl ?_ | (refine W_yes rfl ?_; (first | refine M_int rfl ?_ | refine W_move ?_)))
               <;> (first | refine W_no rfl ?_ | (refine W_yes rfl ?_; (first | refine W_sidx rfl rfl (by assumption) ?_ | refine W_sidx (j := 0) rfl rfl (by assumption) ?_)))
               <;> refine W_no rfl ?_
               <;> (first | refine W_no rfl ?_ | (refine W_yes rfl ?_; ((first | refine M_pick_t rfl ?_ | refine M_pick_f rfl ?_); (first | refine M_bool rfl ?_ | refine W_move ?_))))
               <;> (first | refine W_no rfl ?_ | (refine W_yes rfl ?_; (first | refine M_bool rfl ?_ | refine W_move ?_)))
               <;> (first | refine W_no rfl ?_ | (refine W_yes rfl ?_; (first | refine M_str rfl ?_ | refine W_move ?_)))
               <;> (first | refine W_no rfl ?_ | (refine W_yes rfl ?_; (first | refine M_int rfl ?_ | refine W_move ?_)))
               <;> (first | refine W_no rfl ?_ | (refine W_yes rfl ?_; (first | refine W_sidx rfl rfl (by assumption) ?_ | refine W_sidx (j := 0) rfl rfl (by assumption) ?_)))
               <;> (first | refine W_no rfl ?_ | (refine W_yes rfl ?_; (refine W_eql rfl rfl (fun hc => ?_) (fun hc => ?_) <;> try (exfalso; omega))))
               <;> (first | refine W_no rfl ?_ | (refine W_yes rfl ?_; ((first | refine M_pick_t rfl ?_ | refine M_pick_f rfl ?_); (first | refine M_bool rfl ?_ | refine W_move ?_))))
               <;> ((first | refine M_pick_t rfl ?_ | refine M_pick_f rfl ?_); (first | refine M_bool rfl ?_ | refine W_move ?_))
               <;> (refine M_assign ?_; (first | refine M_bool rfl ?_ | refine W_move ?_))
               <;> refine W_nil ?_)
              exact Q_join () ⟨rfl, rfl, rfl, rfl, by simp [upd, Nat.beq, isLet, hsd], trivial⟩ ⟨n1.keep, b1⟩
            | false =>
              ((first | refine W_no rfl ?_ | (refine W_yes rfl ?_; (first | refine M_bool rfl ?_ | refine W_move ?_)))
               <;> (first | refine W_no rfl ?_ | (refine W_yes rfl ?_; (first | refine M_str rfl ?_ | refine W_move ?_)))
               <;> (first | refine W_no rfl ?_ | (refine W_yes rfl ?_; (first | refine M_int rfl ?_ | refine W_move ?_)))
               <;> (first | refine W_no rfl ?_ | (refine W_yes rfl ?_; (first | refine W_sidx rfl rfl (by assumption) ?_ | refine W_sidx (j := 0) rfl rfl (by assumption) ?_))))
              -- at operation 13: <dst=(some 66) op=(call <callee=(value (func 53)) args=[(tmp 65)] argTypes=[5]>) type=4 guard=(some [9, false])>
              (refine W_yes rfl ?_; refine W_call (rbig_ok d _) rfl ?_)
              rintro v w' ⟨rfl, rfl⟩
              cases hud : isUp d with
              | true =>
                ((first | refine W_no rfl ?_ | (refine W_yes rfl ?_; ((first | refine M_pick_t rfl ?_ | refine M_pick_f rfl ?_); (first | refine M_bool rfl ?_ | refine W_move ?_))))
                 <;> (first | refine W_no rfl ?_ | (refine W_yes rfl ?_; (first | refine M_bool rfl ?_ | refine W_move ?_)))
                 <;> (first | refine W_no rfl ?_ | (refine W_yes rfl ?_; (first | refine M_str rfl ?_ | refine W_move ?_)))
                 <;> (first | refine W_no rfl ?_ | (refine W_yes rfl ?_; (first | refine M_int rfl ?_ | refine W_move ?_)))
                 <;> (first | refine W_no rfl ?_ | (refine W_yes rfl ?_; (first | refine W_sidx rfl rfl (by assumption) ?_ | refine W_sidx (j := 0) rfl rfl (by assumption) ?_)))
                 <;> (first | refine W_no rfl ?_ | (refine W_yes rfl ?_; (refine W_eql rfl rfl (fun hc => ?_) (fun hc => ?_) <;> try (exfalso; omega))))
                 <;> (first | refine W_no rfl ?_ | (refine W_yes rfl ?_; ((first | refine M_pick_t rfl ?_ | refine M_pick_f rfl ?_); (first | refine M_bool rfl ?_ | refine W_move ?_))))
                 <;> ((first | refine M_pick_t rfl ?_ | refine M_pick_f rfl ?_); (first | refine M_bool rfl ?_ | refine W_move ?_))
                 <;> (refine M_assign ?_; (first | refine M_bool rfl ?_ | refine W_move ?_))
                 <;> refine W_nil ?_)
                exact Q_join () ⟨rfl, rfl, rfl, rfl, by simp [upd, Nat.beq, isLet, hsd, hud], trivial⟩ ⟨n1.keep, b1⟩
              | false =>
                ((first | refine W_no rfl ?_ | (refine W_yes rfl ?_; ((first | refine M_pick_t rfl ?_ | refine M_pick_f rfl ?_); (first | refine M_bool rfl ?_ | refine W_move ?_))))
                 <;> (first | refine W_no rfl ?_ | (refine W_yes rfl ?_; (first | refine M_bool rfl ?_ | refine W_move ?_)))
                 <;> (first | refine W_no rfl ?_ | (refine W_yes rfl ?_; (first | refine M_str rfl ?_ | refine W_move ?_)))
                 <;> (first | refine W_no rfl ?_ | (refine W_yes rfl ?_; (first | refine M_int rfl ?_ | refine W_move ?_)))
                 <;> (first | refine W_no rfl ?_ | (refine W_yes rfl ?_; (first | refine W_sidx rfl rfl (by assumption) ?_ | refine W_sidx (j := 0) rfl rfl (by assumption) ?_)))
                 <;> (first | refine W_no rfl ?_ | (refine W_yes rfl ?_; (refine W_eql rfl rfl (fun hc => ?_) (fun hc => ?_) <;> try (exfalso; omega))))
                 <;> (first | refine W_no rfl ?_ | (refine W_yes rfl ?_; ((first | refine M_pick_t rfl ?_ | refine M_pick_f rfl ?_); (first | refine M_bool rfl ?_ | refine W_move ?_))))
                 <;> ((first | refine M_pick_t rfl ?_ | refine M_pick_f rfl ?_); (first | refine M_bool rfl ?_ | refine W_move ?_))
                 <;> (refine M_assign ?_; (first | refine M_bool rfl ?_ | refine W_move ?_))
                 <;> refine W_nil ?_)
                all_goals exact Q_join () ⟨rfl, rfl, rfl, rfl, by simp [upd, Nat.beq, isLet, hsd, hud]; omega, trivial⟩ ⟨n1.keep, b1⟩
          · rw [decide_eq_false hlt, Bool.false_and]
            (refine C_region ?_
             <;> (first | refine M_int rfl ?_ | refine W_move ?_)
             <;> (first | refine M_str rfl ?_ | refine W_move ?_)
             <;> refine W_slen rfl ?_
             <;> (refine W_lss rfl rfl (fun hc => ?_) (fun hc => ?_) <;> try (exfalso; omega))
             <;> (first | refine M_bool rfl ?_ | refine W_move ?_)
             <;> (first | refine W_no rfl ?_ | (refine W_yes rfl ?_; (first | refine M_str rfl ?_ | refine W_move ?_)))
             <;> (first | refine W_no rfl ?_ | (refine W_yes rfl ?_; (first | refine M_int rfl ?_ | refine W_move ?_)))
             <;> (first | refine W_no rfl ?_ | (refine W_yes rfl ?_; (first | refine W_sidx rfl rfl (by assumption) ?_ | refine W_sidx (j := 0) rfl rfl (by assumption) ?_))))
            -- at operation 8: <dst=(some 61) op=(call <callee=(value (func 56)) args=[(tmp 60)] argTypes=[5]>) type=4 guard=(some [4, true])>
            (refine W_no rfl ?_
             <;> (first | refine W_no rfl ?_ | (refine W_yes rfl ?_; (first | refine M_bool rfl ?_ | refine W_move ?_)))
             <;> (first | refine W_no rfl ?_ | (refine W_yes rfl ?_; (first | refine M_str rfl ?_ | refine W_move ?_)))
             <;> (first | refine W_no rfl ?_ | (refine W_yes rfl ?_; (first | refine M_int rfl ?_ | refine W_move ?_)))
             <;> (first | refine W_no rfl ?_ | (refine W_yes rfl ?_; (first | refine W_sidx rfl rfl (by assumption) ?_ | refine W_sidx (j := 0) rfl rfl (by assumption) ?_)))
             <;> refine W_no rfl ?_
             <;> (first | refine W_no rfl ?_ | (refine W_yes rfl ?_; ((first | refine M_pick_t rfl ?_ | refine M_pick_f rfl ?_); (first | refine M_bool rfl ?_ | refine W_move ?_))))
             <;> (first | refine W_no rfl ?_ | (refine W_yes rfl ?_; (first | refine M_bool rfl ?_ | refine W_move ?_)))
             <;> (first | refine W_no rfl ?_ | (refine W_yes rfl ?_; (first | refine M_str rfl ?_ | refine W_move ?_)))
             <;> (first | refine W_no rfl ?_ | (refine W_yes rfl ?_; (first | refine M_int rfl ?_ | refine W_move ?_)))
             <;> (first | refine W_no rfl ?_ | (refine W_yes rfl ?_; (first | refine W_sidx rfl rfl (by assumption) ?_ | refine W_sidx (j := 0) rfl rfl (by assumption) ?_)))
             <;> (first | refine W_no rfl ?_ | (refine W_yes rfl ?_; (refine W_eql rfl rfl (fun hc => ?_) (fun hc => ?_) <;> try (exfalso; omega))))
             <;> (first | refine W_no rfl ?_ | (refine W_yes rfl ?_; ((first | refine M_pick_t rfl ?_ | refine M_pick_f rfl ?_); (first | refine M_bool rfl ?_ | refine W_move ?_))))
             <;> ((first | refine M_pick_t rfl ?_ | refine M_pick_f rfl ?_); (first | refine M_bool rfl ?_ | refine W_move ?_))
             <;> (refine M_assign ?_; (first | refine M_bool rfl ?_ | refine W_move ?_))
             <;> refine W_nil ?_)
            exact Q_join () ⟨rfl, rfl, rfl, rfl, by simp [upd, Nat.beq], trivial⟩ ⟨n1.keep, b1⟩
        rintro _ w4 f4 ⟨k4, b4⟩
        repeat' first | refine nx ?_ | refine C_cond_t rfl ?_ | refine C_cond_f rfl ?_ | refine Q_block_on rfl ?_
        generalize (decide (N < u.length) && (isLet (u.getD N 0) || decide ((u.getD N 0).toNat = 95))) = glued at hnb
        refine C_drawN (.read 0 (.read 1 (.read 2 (.read 3 (.read 4 (.read 5 (.read 6 (.read 7 (.read 8 (.read 9 (.read 10 (.read 11 (.read 12 (.read 13 (.read 14 (.read 15 (.read 16 (.read 17 (.read 18 (.alt 19 (.read 20 .done) .stop)))))))))))))))))))) mixed (by kernel_rfl) (fun wd kd ed => ⟨Keep [w.heap.size] w4, ?_, ?_⟩)
        · exact kd.any
        have b5 := b4.keep kd (by simp)
        have hfin : ∀ r : Bool, r = !numBad u 0 → ∀ (f : Fr) (w6 : World), Put wd w6 w.heap.size 32 [.int .i64 2, strV (u.take N), .int .i64 0] → f 2 = pt w.heap.size → f 3 = .bool r →
            finQ Tryz.prog Tryz.f37 (fun v w' => Ext w w' ∧ v = .tuple #[.agg #[.int .i64 (nextM u).1, strV (u.take (nextM u).2.1), .int .i64 0], .bool (nextM u).2.2]) (fun _ _ => False) .ret f [] w6 := by
          rintro r rfl f w6 p6 e2 e3
          refine fin_retA1 rfl e2 rfl p6.blk.cells ⟨(k4.trans kd).keep p6.keep (by simp), ?_⟩
          rw [hnx, e3]
        cases glued <;> by_cases h4 : N ≤ 4 <;> by_cases hN1 : N = 1 <;> by_cases h48 : c.toNat = 48
        all_goals try (exfalso; omega)
        all_goals
          ((apply D_R rfl rfl; (intro W hW; (first | refine M_str rfl ?_ | refine W_move ?_); exact W_nil ⟨rfl, rfl, rfl⟩))
           <;> (apply D_R rfl rfl; (intro W hW; (first | refine M_int rfl ?_ | refine W_move ?_); exact W_nil ⟨rfl, rfl, rfl⟩))
           <;> (apply D_R rfl rfl; (intro W hW; refine W_sslice_h rfl rfl (by omega) ?_; exact W_nil ⟨rfl, rfl, rfl⟩))
           <;> (apply D_R rfl rfl; (intro W hW; refine W_build (by rfl) (by rfl) ?_; exact W_nil ⟨rfl, rfl, rfl⟩))
           <;> (apply D_R rfl rfl; (intro W hW; (first | refine M_int rfl ?_ | refine W_move ?_); exact W_nil ⟨rfl, rfl, rfl⟩))
           <;> (refine D_leq rfl rfl rfl rfl (fun hc => ?_) (fun hc => ?_) <;> try (exfalso; omega))
           <;> (apply D_R rfl rfl; (intro W hW; (first | refine M_bool rfl ?_ | refine W_move ?_); exact W_nil ⟨rfl, rfl, rfl⟩))
           <;> (first | refine D_skip rfl rfl rfl rfl ?_ | (apply D_R rfl rfl; (intro W hW; refine W_no rfl ?_; exact W_nil ⟨rfl, rfl, rfl⟩)) | (apply D_R rfl rfl; (intro W hW; (refine W_yes rfl ?_; (first | refine M_bool rfl ?_ | refine W_move ?_)); exact W_nil ⟨rfl, rfl, rfl⟩)))
           <;> (first | refine D_skip rfl rfl rfl rfl ?_ | (apply D_R rfl rfl; (intro W hW; refine W_no rfl ?_; exact W_nil ⟨rfl, rfl, rfl⟩)) | (apply D_R rfl rfl; (intro W hW; (refine W_yes rfl ?_; refine W_not rfl ?_); exact W_nil ⟨rfl, rfl, rfl⟩)))
           <;> (apply D_R rfl rfl; (intro W hW; ((first | refine M_pick_t rfl ?_ | refine M_pick_f rfl ?_); (first | refine M_bool rfl ?_ | refine W_move ?_)); exact W_nil ⟨rfl, rfl, rfl⟩))
           <;> (apply D_R rfl rfl; (intro W hW; (first | refine M_bool rfl ?_ | refine W_move ?_); exact W_nil ⟨rfl, rfl, rfl⟩))
           <;> (first | refine D_skip rfl rfl rfl rfl ?_ | (apply D_R rfl rfl; (intro W hW; refine W_no rfl ?_; exact W_nil ⟨rfl, rfl, rfl⟩)) | (apply D_R rfl rfl; (intro W hW; (refine W_yes rfl ?_; (first | refine M_int rfl ?_ | refine W_move ?_)); exact W_nil ⟨rfl, rfl, rfl⟩)))
           <;> (first | refine D_skip rfl rfl rfl rfl ?_ | (apply D_R rfl rfl; (intro W hW; refine W_no rfl ?_; exact W_nil ⟨rfl, rfl, rfl⟩)) | (refine D_eql rfl rfl rfl rfl (fun hc => ?_) (fun hc => ?_) <;> try (exfalso; omega)))
           <;> (first | refine D_skip rfl rfl rfl rfl ?_ | (apply D_R rfl rfl; (intro W hW; refine W_no rfl ?_; exact W_nil ⟨rfl, rfl, rfl⟩)) | (apply D_R rfl rfl; (intro W hW; (refine W_yes rfl ?_; (first | refine M_bool rfl ?_ | refine W_move ?_)); exact W_nil ⟨rfl, rfl, rfl⟩)))
           <;> (first | refine D_skip rfl rfl rfl rfl ?_ | (apply D_R rfl rfl; (intro W hW; refine W_no rfl ?_; exact W_nil ⟨rfl, rfl, rfl⟩)) | (apply D_R rfl rfl; (intro W hW; (refine W_yes rfl ?_; (first | refine M_str rfl ?_ | refine W_move ?_)); exact W_nil ⟨rfl, rfl, rfl⟩)))
           <;> (first | refine D_skip rfl rfl rfl rfl ?_ | (apply D_R rfl rfl; (intro W hW; refine W_no rfl ?_; exact W_nil ⟨rfl, rfl, rfl⟩)) | (apply D_R rfl rfl; (intro W hW; (refine W_yes rfl ?_; (first | refine W_sidx rfl rfl (by assumption) ?_ | refine W_sidx (j := 0) rfl rfl (by assumption) ?_)); exact W_nil ⟨rfl, rfl, rfl⟩)))
           <;> (first | refine D_skip rfl rfl rfl rfl ?_ | (apply D_R rfl rfl; (intro W hW; refine W_no rfl ?_; exact W_nil ⟨rfl, rfl, rfl⟩)) | (refine D_neq rfl rfl rfl rfl (fun hc => ?_) (fun hc => ?_) <;> try (exfalso; omega)))
           <;> (first | refine D_skip rfl rfl rfl rfl ?_ | (apply D_R rfl rfl; (intro W hW; refine W_no rfl ?_; exact W_nil ⟨rfl, rfl, rfl⟩)) | (apply D_R rfl rfl; (intro W hW; (refine W_yes rfl ?_; ((first | refine M_pick_t rfl ?_ | refine M_pick_f rfl ?_); (first | refine M_bool rfl ?_ | refine W_move ?_))); exact W_nil ⟨rfl, rfl, rfl⟩)))
           <;> (apply D_R rfl rfl; (intro W hW; ((first | refine M_pick_t rfl ?_ | refine M_pick_f rfl ?_); (first | refine M_bool rfl ?_ | refine W_move ?_)); exact W_nil ⟨rfl, rfl, rfl⟩)))
          -- at place 19, operation 19: <dst=none op=(store 32 (tmp 2) (tmp 78)) type=0 guard=none>
          refine D_E rfl ?_
          refine W_store_agg (cs := [.int .i64 2, strV (u.take N), .int .i64 0]) rfl rfl rfl (oneC_all rfl) b5 (by simp) (fun w6 p6 => ?_)
          refine W_nil ⟨fun W => W = w6, fun W hW => hW ▸ (kd.any.trans p6.keep (by simp)), rfl, ?_⟩
          ((apply D_R rfl rfl; (intro W hW; subst hW; (refine M_assign ?_; (first | refine M_bool rfl ?_ | refine W_move ?_)); exact W_nil ⟨rfl, rfl, rfl⟩))
           <;> refine D_nil ?_)
          repeat' first | refine nx ?_ | refine C_cond_t rfl ?_ | refine C_cond_f rfl ?_ | refine Q_block_on rfl ?_
          refine hfin _ ?_ _ w6 p6 rfl rfl
          rw [hnb]
          simp [upd, Nat.beq, h4, hN1, h48] <;> omega
    | false =>
      repeat' first | refine nx ?_ | refine C_cond_t rfl ?_ | refine C_cond_f rfl ?_ | refine Q_block_on rfl ?_
      (refine C_region ?_
       <;> (first | refine M_str rfl ?_ | refine W_move ?_))
      -- at operation 1: <dst=(some 95) op=(call <callee=(value (func 57)) args=[(tmp 94)] argTypes=[9]>) type=9 guard=none>
      refine W_call (rsymbol_ok u _) rfl ?_
      rintro v w3 ⟨rfl, k3⟩
      ((refine M_assign ?_; (first | refine M_str rfl ?_ | refine W_move ?_))
       <;> refine W_nil ?_)
      repeat' first | refine nx ?_ | refine C_cond_t rfl ?_ | refine C_cond_f rfl ?_ | refine Q_block_on rfl ?_
      have b3 := b1.keep k3 (by simp)
      have htk : symW u = u.take (symW u).length := by
        unfold symW
        cases hf : symsL.find? (hasPre u) with
        | none => rfl
        | some y => exact (List.prefix_iff_eq_take.1 ((hasPre_iff _ _).1 (List.find?_some hf)))
      have hnx : nextM u = (3, (symW u).length, !decide (symW u = [])) := by
        unfold nextM
        rw [hgd, hl, hd]; rfl
      by_cases he : symW u = []
      · (refine C_region ?_
         <;> (first | refine M_str rfl ?_ | refine W_move ?_)
         <;> refine W_build (by rfl) (by rfl) ?_
         <;> (first | refine M_str rfl ?_ | refine W_move ?_)
         <;> refine W_sneq rfl rfl (fun hc => ?_) (fun hc => ?_))
        -- at operation 4: <dst=none op=(store 32 (tmp 2) (tmp 97)) type=0 guard=none>
        · exact absurd he (by assumption)
        · refine W_store_agg (cs := [.int .i64 3, strV (symW u), .int .i64 0]) rfl rfl rfl (oneC_all rfl) b3 (by simp) (fun w4 p4 => ?_)
          have b4 : Blk w4 w.heap.size 32 [.int .i64 3, strV (symW u), .int .i64 0] := p4.blk
          ((refine M_assign ?_; (first | refine M_bool rfl ?_ | refine W_move ?_))
           <;> refine W_nil ?_)
          repeat' first | refine nx ?_ | refine C_cond_t rfl ?_ | refine C_cond_f rfl ?_ | refine Q_block_on rfl ?_
          refine fin_retA1 rfl rfl rfl b4.cells ⟨(n1.keep.trans k3).keep p4.keep (by simp), ?_⟩
          rw [hnx]
          simp only
          rw [← htk, decide_eq_true he]; rfl
      · (refine C_region ?_
         <;> (first | refine M_str rfl ?_ | refine W_move ?_)
         <;> refine W_build (by rfl) (by rfl) ?_
         <;> (first | refine M_str rfl ?_ | refine W_move ?_)
         <;> refine W_sneq rfl rfl (fun hc => ?_) (fun hc => ?_))
        -- at operation 4: <dst=none op=(store 32 (tmp 2) (tmp 97)) type=0 guard=none>
        · refine W_store_agg (cs := [.int .i64 3, strV (symW u), .int .i64 0]) rfl rfl rfl (oneC_all rfl) b3 (by simp) (fun w4 p4 => ?_)
          have b4 : Blk w4 w.heap.size 32 [.int .i64 3, strV (symW u), .int .i64 0] := p4.blk
          ((refine M_assign ?_; (first | refine M_bool rfl ?_ | refine W_move ?_))
           <;> refine W_nil ?_)
          repeat' first | refine nx ?_ | refine C_cond_t rfl ?_ | refine C_cond_f rfl ?_ | refine Q_block_on rfl ?_
          refine fin_retA1 rfl rfl rfl b4.cells ⟨(n1.keep.trans k3).keep p4.keep (by simp), ?_⟩
          rw [hnx]
          simp only
          rw [← htk, decide_eq_false he]; rfl
        · exact absurd (by assumption) he
end Go.Proofs.YtmnhnbpnjepkbaaGreatDoor
