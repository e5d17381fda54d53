/- The walk through ParserChains. A law's close: what the walk gives, as the row wants it; the common part. A law's close where the row lists the parser's variables: what the list gives, the witness, the law's step. Lists of strings that come in, opened. ParserChains: for every input the law returns true and each argument reads as it did. Conditions: none. -/
import Derived.Test.YtmnhnbpnjepkbaaGreatDoorK5A1
import Derived.WalkKit
import Derived.ProofKit
import Derived.OpenShut
import Derived.JoinedCond
import Derived.ChangeStays
import Derived.ReadAgain
import Derived.Deep.Slices
import Derived.Test.YtmnhnbpnjepkbaaGreatDoorCards
import Derived.Test.YtmnhnbpnjepkbaaGreatDoorTie
import Derived.Deep.DeepWitnessRowRef
import Derived.Lib.LaidTab
import Derived.Deep.Strs

namespace Go.Proofs.YtmnhnbpnjepkbaaGreatDoor
open Go.RowKit
set_option linter.unusedVariables false

theorem preT_pos {s : List UInt8} {ts : List (List UInt8)} {k : Nat} (h : 0 < k) : chainT s (ts.take k) ++ s = preT s ts k := by
  unfold preT; rw [if_neg (by omega)]
theorem preT_zero {s : List UInt8} {ts : List (List UInt8)} : chainT s (ts.take 0) = preT s ts 0 := by
  simp [chainT, preT]
set_option maxHeartbeats 6400000 in
set_option maxRecDepth 20000 in
theorem chains_ok (w : World) (v : Value) (ts : List (List UInt8)) (hT : Sl anyB w v ts.length (ts.map strV)) (hG : GK w) : Fn Tryz.prog 6 [v] w fun v w' => v = .bool true ∧ Ext w w' := by
  obtain ⟨a, c, rfl, hc1, hc2, _, hcc⟩ := hT
  refine fn_of_wc Tryz.func6 rfl Tryz.ntmps6 (Nat.le_of_ble_eq_true rfl) (by kernel_rfl) ?_
  repeat' first | refine nx ?_ | refine C_cond_t rfl ?_ | refine C_cond_f rfl ?_ | refine Q_block_on rfl ?_
  (refine C_region ?_
   <;> (refine M_assign ?_; (first | refine M_bool rfl ?_ | refine W_move ?_))
   <;> refine W_nil ?_)
  repeat' first | refine nx ?_ | refine C_cond_t rfl ?_ | refine C_cond_f rfl ?_ | refine Q_block_on rfl ?_
  (refine C_region ?_)
  -- at operation 0: <dst=(some 19) op=(call <callee=(value (func 9)) args=[] argTypes=[]>) type=4 guard=none>
  refine W_call (head_ok w hG) rfl ?_
  rintro v w0 ⟨rfl, k0⟩
  ((refine M_assign ?_; (first | refine M_bool rfl ?_ | refine W_move ?_))
   <;> refine W_nil ?_)
  repeat' first | refine nx ?_ | refine C_cond_t rfl ?_ | refine C_cond_f rfl ?_ | refine Q_block_on rfl ?_
  by_cases hn : ts.length < 2
  · (refine C_region ?_
     <;> (first | refine M_slice rfl ?_ | refine W_move ?_)
     <;> refine W_len rfl ?_
     <;> (refine W_lss rfl rfl (fun hc => ?_) (fun hc => ?_) <;> try (exfalso; omega))
     <;> (first | refine M_bool rfl ?_ | refine W_move ?_)
     <;> (first | refine W_no rfl ?_ | (refine W_yes rfl ?_; (first | refine M_slice rfl ?_ | refine W_move ?_)))
     <;> (first | refine W_no rfl ?_ | (refine W_yes rfl ?_; refine W_len rfl ?_))
     <;> (first | refine W_no rfl ?_ | (refine W_yes rfl ?_; (refine W_gtr rfl rfl (fun hc => ?_) (fun hc => ?_) <;> try (exfalso; omega))))
     <;> ((first | refine M_pick_t rfl ?_ | refine M_pick_f rfl ?_); (first | refine M_bool rfl ?_ | refine W_move ?_))
     <;> refine W_nil ?_)
    repeat' first | refine nx ?_ | refine C_cond_t rfl ?_ | refine C_cond_f rfl ?_ | refine Q_block_on rfl ?_
    (refine C_region ?_
     <;> (first | refine M_bool rfl ?_ | refine W_move ?_)
     <;> (refine M_assign ?_; (first | refine M_bool rfl ?_ | refine W_move ?_))
     <;> refine W_nil ?_)
    repeat' first | refine nx ?_ | refine C_cond_t rfl ?_ | refine C_cond_f rfl ?_ | refine Q_block_on rfl ?_
    exact fin_ret1 rfl ⟨rfl, k0⟩
  by_cases hn6 : 6 < ts.length
  · (refine C_region ?_
     <;> (first | refine M_slice rfl ?_ | refine W_move ?_)
     <;> refine W_len rfl ?_
     <;> (refine W_lss rfl rfl (fun hc => ?_) (fun hc => ?_) <;> try (exfalso; omega))
     <;> (first | refine M_bool rfl ?_ | refine W_move ?_)
     <;> (first | refine W_no rfl ?_ | (refine W_yes rfl ?_; (first | refine M_slice rfl ?_ | refine W_move ?_)))
     <;> (first | refine W_no rfl ?_ | (refine W_yes rfl ?_; refine W_len rfl ?_))
     <;> (first | refine W_no rfl ?_ | (refine W_yes rfl ?_; (refine W_gtr rfl rfl (fun hc => ?_) (fun hc => ?_) <;> try (exfalso; omega))))
     <;> ((first | refine M_pick_t rfl ?_ | refine M_pick_f rfl ?_); (first | refine M_bool rfl ?_ | refine W_move ?_))
     <;> refine W_nil ?_)
    repeat' first | refine nx ?_ | refine C_cond_t rfl ?_ | refine C_cond_f rfl ?_ | refine Q_block_on rfl ?_
    (refine C_region ?_
     <;> (first | refine M_bool rfl ?_ | refine W_move ?_)
     <;> (refine M_assign ?_; (first | refine M_bool rfl ?_ | refine W_move ?_))
     <;> refine W_nil ?_)
    repeat' first | refine nx ?_ | refine C_cond_t rfl ?_ | refine C_cond_f rfl ?_ | refine Q_block_on rfl ?_
    exact fin_ret1 rfl ⟨rfl, k0⟩
  (refine C_region ?_
   <;> (first | refine M_slice rfl ?_ | refine W_move ?_)
   <;> refine W_len rfl ?_
   <;> (refine W_lss rfl rfl (fun hc => ?_) (fun hc => ?_) <;> try (exfalso; omega))
   <;> (first | refine M_bool rfl ?_ | refine W_move ?_)
   <;> (first | refine W_no rfl ?_ | (refine W_yes rfl ?_; (first | refine M_slice rfl ?_ | refine W_move ?_)))
   <;> (first | refine W_no rfl ?_ | (refine W_yes rfl ?_; refine W_len rfl ?_))
   <;> (first | refine W_no rfl ?_ | (refine W_yes rfl ?_; (refine W_gtr rfl rfl (fun hc => ?_) (fun hc => ?_) <;> try (exfalso; omega))))
   <;> ((first | refine M_pick_t rfl ?_ | refine M_pick_f rfl ?_); (first | refine M_bool rfl ?_ | refine W_move ?_))
   <;> refine W_nil ?_)
  repeat' first | refine nx ?_ | refine C_cond_t rfl ?_ | refine C_cond_f rfl ?_ | refine Q_block_on rfl ?_
  (refine C_region ?_
   <;> (refine M_assign ?_; (first | refine M_slice rfl ?_ | refine W_move ?_))
   <;> refine W_nil ?_)
  repeat' first | refine nx ?_ | refine C_cond_t rfl ?_ | refine C_cond_f rfl ?_ | refine Q_block_on rfl ?_
  (refine C_region ?_
   <;> (refine M_assign ?_; (first | refine M_str rfl ?_ | refine W_move ?_))
   <;> refine W_nil ?_)
  repeat' first | refine nx ?_ | refine C_cond_t rfl ?_ | refine C_cond_f rfl ?_ | refine Q_block_on rfl ?_
  (refine C_region ?_
   <;> (refine M_assign ?_; (first | refine M_str rfl ?_ | refine W_move ?_))
   <;> refine W_nil ?_)
  repeat' first | refine nx ?_ | refine C_cond_t rfl ?_ | refine C_cond_f rfl ?_ | refine Q_block_on rfl ?_
  (refine C_region ?_
   <;> (refine M_assign ?_; (first | refine M_str rfl ?_ | refine W_move ?_))
   <;> refine W_nil ?_)
  repeat' first | refine nx ?_ | refine C_cond_t rfl ?_ | refine C_cond_f rfl ?_ | refine Q_block_on rfl ?_
  (refine C_region ?_
   <;> (refine M_assign ?_; (first | refine M_str rfl ?_ | refine W_move ?_))
   <;> refine W_nil ?_)
  repeat' first | refine nx ?_ | refine C_cond_t rfl ?_ | refine C_cond_f rfl ?_ | refine Q_block_on rfl ?_
  (refine C_region ?_
   <;> (refine M_assign ?_; (first | refine M_int rfl ?_ | refine W_move ?_))
   <;> refine W_nil ?_)
  repeat' first | refine nx ?_ | refine C_cond_t rfl ?_ | refine C_cond_f rfl ?_ | refine Q_block_on rfl ?_
  obtain ⟨b, o, rfl, _, hcell⟩ := hcc.resolve_left (by omega)
  refine C_loop (α := Nat × Value × List (List Value) × List Fml) (fun x => [(0, .slice (some ⟨b, o, none⟩) ts.length c), (3, .bool true), (4, x.2.1), (5, strV (chainT [38] (ts.take x.1))), (6, strV (chainT [124] (ts.take x.1))), (7, strV (chainT [85] (ts.take x.1))), (8, strV (chainT [45, 62] (ts.take x.1))), (9, .int .i64 (x.1 : Int))])
    (fun x W => x.1 ≤ ts.length ∧ Ext w0 W ∧ Items (ts.take x.1) x.2.2.2 ∧ W.ownsRow w0.heap.size 39 5 x.2.1 x.1 x.2.2.1.flatten ∧ FsAt (fun b => fresh w0 b ∧ x.2.1.ownBlock ≠ some b) W x.2.2.1 x.2.2.2)
    (fun x => ts.length - x.1) (0, .slice none 0 0, [], []) ⟨rfl, rfl, rfl, congrArg strV (by simp [chainT]), congrArg strV (by simp [chainT]), congrArg strV (by simp [chainT]), congrArg strV (by simp [chainT]), rfl, trivial⟩ ⟨by simp, Ext.refl _, by simp only [List.take_zero]; exact trivial, ⟨by simp, .inl ⟨rfl, rfl⟩⟩, FsAt.nil _ _⟩ ?_
  rintro ⟨k, v4, L, fs⟩ w3 f3 ⟨hk, k3, hI, o3, F3⟩
  simp only at hk k3 hI o3 F3 ⊢
  repeat' first | refine nx ?_ | refine C_cond_t rfl ?_ | refine C_cond_f rfl ?_ | refine Q_block_on rfl ?_
  have hfl := items_len hI hk
  have z3 := k3.size
  by_cases hlt : k < ts.length
  · obtain ⟨s, hs⟩ : ∃ s, ts[k]? = some s := ⟨_, List.getElem?_eq_getElem hlt⟩
    have hce : ∀ W, Ext w0 W → W.cell? ⟨b, o + k, none⟩ = some (strV s) := fun W e => (k0.trans e).cell (hcell k _ (by simp [hs])) (by simp)
    have c3 := hce w3 k3
    (refine C_region ?_
     <;> (first | refine M_int rfl ?_ | refine W_move ?_)
     <;> (first | refine M_slice rfl ?_ | refine W_move ?_)
     <;> refine W_len rfl ?_
     <;> (refine W_lss rfl rfl (fun hc => ?_) (fun hc => ?_) <;> try (exfalso; omega))
     <;> refine W_nil ?_)
    repeat' first | refine nx ?_ | refine C_cond_t rfl ?_ | refine C_cond_f rfl ?_ | refine Q_block_on rfl ?_
    (refine C_region ?_
     <;> (first | refine M_slice rfl ?_ | refine W_move ?_)
     <;> (first | refine M_int rfl ?_ | refine W_move ?_)
     <;> (first | refine W_idx1 rfl rfl rfl (by omega) ?_ | refine W_idx rfl rfl rfl (by omega) ?_ | refine W_indexAddr rfl rfl (by omega) (by omega) ?_)
     <;> (first | refine W_load rfl (Blk.cell (by assumption) (by rfl)) ?_ | refine W_load rfl (by assumption) ?_))
    -- at operation 4: <dst=(some 40) op=(call <callee=(value (func 16)) args=[(tmp 39)] argTypes=[9]>) type=52 guard=none>
    refine W_call (formula_fresh w3 s (hG.ext (k0.trans k3))) rfl ?_
    rintro _ w4 ⟨k4, oF, g0, g1, g2, g3, g4, pF, rfl, fF, nF⟩
    ((first | refine M_tuple rfl ?_ | refine W_move ?_)
     <;> refine W_extract rfl rfl ?_
     <;> refine W_extract rfl rfl ?_
     <;> refine W_extract rfl rfl ?_)
    -- at operation 9: <dst=(some 10) op=(alloc 39) type=0 guard=none>
    refine W_newAgg (cs := [g0, g1, g2, g3, g4]) rfl rfl (by rfl) nF (fun w5 n5 => ?_)
    ((refine M_assign ?_; (first | refine M_int rfl ?_ | refine W_move ?_))
     <;> (refine M_assign ?_; (first | refine M_int rfl ?_ | refine W_move ?_))
     <;> refine W_nil ?_)
    repeat' first | refine nx ?_ | refine C_cond_t rfl ?_ | refine C_cond_f rfl ?_ | refine Q_block_on rfl ?_
    have k35 : Ext w3 w5 := k4.trans n5.keep
    have c5 := hce w5 (k3.trans k35)
    (refine C_region ?_
     <;> (first | refine M_slice rfl ?_ | refine W_move ?_)
     <;> (first | refine M_int rfl ?_ | refine W_move ?_)
     <;> (first | refine W_idx1 rfl rfl rfl (by omega) ?_ | refine W_idx rfl rfl rfl (by omega) ?_ | refine W_indexAddr rfl rfl (by omega) (by omega) ?_)
     <;> (first | refine W_load rfl (Blk.cell (by assumption) (by rfl)) ?_ | refine W_load rfl (by assumption) ?_))
    -- at operation 4: <dst=(some 49) op=(call <callee=(value (func 10)) args=[(tmp 48)] argTypes=[9]>) type=26 guard=none>
    refine W_call (reflex_ok w5 s) rfl ?_
    rintro _ w6 ⟨aa, ac, ea, qa, A, rfl, k6, hTA, hA⟩
    ((first | refine M_tuple rfl ?_ | refine W_move ?_)
     <;> refine W_extract rfl rfl ?_
     <;> refine W_extract rfl rfl ?_
     <;> refine W_extract rfl rfl ?_
     <;> (refine M_assign ?_; (first | refine M_slice rfl ?_ | refine W_move ?_))
     <;> (refine M_assign ?_; (first | refine M_int rfl ?_ | refine W_move ?_))
     <;> (refine M_assign ?_; (first | refine M_int rfl ?_ | refine W_move ?_))
     <;> refine W_nil ?_)
    repeat' first | refine nx ?_ | refine C_cond_t rfl ?_ | refine C_cond_f rfl ?_ | refine Q_block_on rfl ?_
    have k36 := k35.trans k6
    have c6 := hce w6 (k3.trans k36)
    by_cases hF : oF.errno = 0
    case neg =>
      (refine C_region ?_
       <;> (first | refine M_int rfl ?_ | refine W_move ?_)
       <;> (refine W_neq rfl rfl (fun hc => ?_) (fun hc => ?_) <;> try (exfalso; omega))
       <;> (first | refine M_bool rfl ?_ | refine W_move ?_)
       <;> (first | refine W_no rfl ?_ | (refine W_yes rfl ?_; (first | refine M_slice rfl ?_ | refine W_move ?_)))
       <;> (first | refine W_no rfl ?_ | (refine W_yes rfl ?_; (first | refine M_int rfl ?_ | refine W_move ?_)))
       <;> (first | refine W_no rfl ?_ | (refine W_yes rfl ?_; (first | refine W_idx1 rfl rfl rfl (by omega) ?_ | refine W_idx rfl rfl rfl (by omega) ?_ | refine W_indexAddr rfl rfl (by omega) (by omega) ?_)))
       <;> (first | refine W_no rfl ?_ | (refine W_yes rfl ?_; (first | refine W_load rfl (Blk.cell (by assumption) (by rfl)) ?_ | refine W_load rfl (by assumption) ?_)))
       <;> (first | refine W_no rfl ?_ | (refine W_yes rfl ?_; refine W_slen rfl ?_))
       <;> (first | refine W_no rfl ?_ | (refine W_yes rfl ?_; (refine W_gtr rfl rfl (fun hc => ?_) (fun hc => ?_) <;> try (exfalso; omega))))
       <;> ((first | refine M_pick_t rfl ?_ | refine M_pick_f rfl ?_); (first | refine M_bool rfl ?_ | refine W_move ?_))
       <;> (first | refine M_bool rfl ?_ | refine W_move ?_)
       <;> (first | refine W_no rfl ?_ | (refine W_yes rfl ?_; (first | refine M_slice rfl ?_ | refine W_move ?_)))
       <;> (first | refine W_no rfl ?_ | (refine W_yes rfl ?_; refine W_len rfl ?_))
       <;> (first | refine W_no rfl ?_ | (refine W_yes rfl ?_; (refine W_gtr rfl rfl (fun hc => ?_) (fun hc => ?_) <;> try (exfalso; omega))))
       <;> ((first | refine M_pick_t rfl ?_ | refine M_pick_f rfl ?_); (first | refine M_bool rfl ?_ | refine W_move ?_))
       <;> refine W_nil ?_)
      repeat' first | refine nx ?_ | refine C_cond_t rfl ?_ | refine C_cond_f rfl ?_ | refine Q_block_on rfl ?_
      (refine C_region ?_
       <;> (first | refine M_bool rfl ?_ | refine W_move ?_)
       <;> (refine M_assign ?_; (first | refine M_bool rfl ?_ | refine W_move ?_))
       <;> refine W_nil ?_)
      repeat' first | refine nx ?_ | refine C_cond_t rfl ?_ | refine C_cond_f rfl ?_ | refine Q_block_on rfl ?_
      exact fin_ret1 rfl ⟨rfl, k0.trans (k3.trans k36)⟩
    by_cases lS : 700 < s.length
    · (refine C_region ?_
       <;> (first | refine M_int rfl ?_ | refine W_move ?_)
       <;> (refine W_neq rfl rfl (fun hc => ?_) (fun hc => ?_) <;> try (exfalso; omega))
       <;> (first | refine M_bool rfl ?_ | refine W_move ?_)
       <;> (first | refine W_no rfl ?_ | (refine W_yes rfl ?_; (first | refine M_slice rfl ?_ | refine W_move ?_)))
       <;> (first | refine W_no rfl ?_ | (refine W_yes rfl ?_; (first | refine M_int rfl ?_ | refine W_move ?_)))
       <;> (first | refine W_no rfl ?_ | (refine W_yes rfl ?_; (first | refine W_idx1 rfl rfl rfl (by omega) ?_ | refine W_idx rfl rfl rfl (by omega) ?_ | refine W_indexAddr rfl rfl (by omega) (by omega) ?_)))
       <;> (first | refine W_no rfl ?_ | (refine W_yes rfl ?_; (first | refine W_load rfl (Blk.cell (by assumption) (by rfl)) ?_ | refine W_load rfl (by assumption) ?_)))
       <;> (first | refine W_no rfl ?_ | (refine W_yes rfl ?_; refine W_slen rfl ?_))
       <;> (first | refine W_no rfl ?_ | (refine W_yes rfl ?_; (refine W_gtr rfl rfl (fun hc => ?_) (fun hc => ?_) <;> try (exfalso; omega))))
       <;> ((first | refine M_pick_t rfl ?_ | refine M_pick_f rfl ?_); (first | refine M_bool rfl ?_ | refine W_move ?_))
       <;> (first | refine M_bool rfl ?_ | refine W_move ?_)
       <;> (first | refine W_no rfl ?_ | (refine W_yes rfl ?_; (first | refine M_slice rfl ?_ | refine W_move ?_)))
       <;> (first | refine W_no rfl ?_ | (refine W_yes rfl ?_; refine W_len rfl ?_))
       <;> (first | refine W_no rfl ?_ | (refine W_yes rfl ?_; (refine W_gtr rfl rfl (fun hc => ?_) (fun hc => ?_) <;> try (exfalso; omega))))
       <;> ((first | refine M_pick_t rfl ?_ | refine M_pick_f rfl ?_); (first | refine M_bool rfl ?_ | refine W_move ?_))
       <;> refine W_nil ?_)
      repeat' first | refine nx ?_ | refine C_cond_t rfl ?_ | refine C_cond_f rfl ?_ | refine Q_block_on rfl ?_
      (refine C_region ?_
       <;> (first | refine M_bool rfl ?_ | refine W_move ?_)
       <;> (refine M_assign ?_; (first | refine M_bool rfl ?_ | refine W_move ?_))
       <;> refine W_nil ?_)
      repeat' first | refine nx ?_ | refine C_cond_t rfl ?_ | refine C_cond_f rfl ?_ | refine Q_block_on rfl ?_
      exact fin_ret1 rfl ⟨rfl, k0.trans (k3.trans k36)⟩
    by_cases lA : 200 < A.length
    · (refine C_region ?_
       <;> (first | refine M_int rfl ?_ | refine W_move ?_)
       <;> (refine W_neq rfl rfl (fun hc => ?_) (fun hc => ?_) <;> try (exfalso; omega))
       <;> (first | refine M_bool rfl ?_ | refine W_move ?_)
       <;> (first | refine W_no rfl ?_ | (refine W_yes rfl ?_; (first | refine M_slice rfl ?_ | refine W_move ?_)))
       <;> (first | refine W_no rfl ?_ | (refine W_yes rfl ?_; (first | refine M_int rfl ?_ | refine W_move ?_)))
       <;> (first | refine W_no rfl ?_ | (refine W_yes rfl ?_; (first | refine W_idx1 rfl rfl rfl (by omega) ?_ | refine W_idx rfl rfl rfl (by omega) ?_ | refine W_indexAddr rfl rfl (by omega) (by omega) ?_)))
       <;> (first | refine W_no rfl ?_ | (refine W_yes rfl ?_; (first | refine W_load rfl (Blk.cell (by assumption) (by rfl)) ?_ | refine W_load rfl (by assumption) ?_)))
       <;> (first | refine W_no rfl ?_ | (refine W_yes rfl ?_; refine W_slen rfl ?_))
       <;> (first | refine W_no rfl ?_ | (refine W_yes rfl ?_; (refine W_gtr rfl rfl (fun hc => ?_) (fun hc => ?_) <;> try (exfalso; omega))))
       <;> ((first | refine M_pick_t rfl ?_ | refine M_pick_f rfl ?_); (first | refine M_bool rfl ?_ | refine W_move ?_))
       <;> (first | refine M_bool rfl ?_ | refine W_move ?_)
       <;> (first | refine W_no rfl ?_ | (refine W_yes rfl ?_; (first | refine M_slice rfl ?_ | refine W_move ?_)))
       <;> (first | refine W_no rfl ?_ | (refine W_yes rfl ?_; refine W_len rfl ?_))
       <;> (first | refine W_no rfl ?_ | (refine W_yes rfl ?_; (refine W_gtr rfl rfl (fun hc => ?_) (fun hc => ?_) <;> try (exfalso; omega))))
       <;> ((first | refine M_pick_t rfl ?_ | refine M_pick_f rfl ?_); (first | refine M_bool rfl ?_ | refine W_move ?_))
       <;> refine W_nil ?_)
      repeat' first | refine nx ?_ | refine C_cond_t rfl ?_ | refine C_cond_f rfl ?_ | refine Q_block_on rfl ?_
      (refine C_region ?_
       <;> (first | refine M_bool rfl ?_ | refine W_move ?_)
       <;> (refine M_assign ?_; (first | refine M_bool rfl ?_ | refine W_move ?_))
       <;> refine W_nil ?_)
      repeat' first | refine nx ?_ | refine C_cond_t rfl ?_ | refine C_cond_f rfl ?_ | refine Q_block_on rfl ?_
      exact fin_ret1 rfl ⟨rfl, k0.trans (k3.trans k36)⟩
    (refine C_region ?_
     <;> (first | refine M_int rfl ?_ | refine W_move ?_)
     <;> (refine W_neq rfl rfl (fun hc => ?_) (fun hc => ?_) <;> try (exfalso; omega))
     <;> (first | refine M_bool rfl ?_ | refine W_move ?_)
     <;> (first | refine W_no rfl ?_ | (refine W_yes rfl ?_; (first | refine M_slice rfl ?_ | refine W_move ?_)))
     <;> (first | refine W_no rfl ?_ | (refine W_yes rfl ?_; (first | refine M_int rfl ?_ | refine W_move ?_)))
     <;> (first | refine W_no rfl ?_ | (refine W_yes rfl ?_; (first | refine W_idx1 rfl rfl rfl (by omega) ?_ | refine W_idx rfl rfl rfl (by omega) ?_ | refine W_indexAddr rfl rfl (by omega) (by omega) ?_)))
     <;> (first | refine W_no rfl ?_ | (refine W_yes rfl ?_; (first | refine W_load rfl (Blk.cell (by assumption) (by rfl)) ?_ | refine W_load rfl (by assumption) ?_)))
     <;> (first | refine W_no rfl ?_ | (refine W_yes rfl ?_; refine W_slen rfl ?_))
     <;> (first | refine W_no rfl ?_ | (refine W_yes rfl ?_; (refine W_gtr rfl rfl (fun hc => ?_) (fun hc => ?_) <;> try (exfalso; omega))))
     <;> ((first | refine M_pick_t rfl ?_ | refine M_pick_f rfl ?_); (first | refine M_bool rfl ?_ | refine W_move ?_))
     <;> (first | refine M_bool rfl ?_ | refine W_move ?_)
     <;> (first | refine W_no rfl ?_ | (refine W_yes rfl ?_; (first | refine M_slice rfl ?_ | refine W_move ?_)))
     <;> (first | refine W_no rfl ?_ | (refine W_yes rfl ?_; refine W_len rfl ?_))
     <;> (first | refine W_no rfl ?_ | (refine W_yes rfl ?_; (refine W_gtr rfl rfl (fun hc => ?_) (fun hc => ?_) <;> try (exfalso; omega))))
     <;> ((first | refine M_pick_t rfl ?_ | refine M_pick_f rfl ?_); (first | refine M_bool rfl ?_ | refine W_move ?_))
     <;> refine W_nil ?_)
    repeat' first | refine nx ?_ | refine C_cond_t rfl ?_ | refine C_cond_f rfl ?_ | refine Q_block_on rfl ?_
    obtain ⟨f, rfl⟩ := pF.zero.1 hF
    obtain ⟨A', hmA, hrA⟩ := PRes.tokens pF
    obtain rfl : A = A' := by
      rcases hA with ⟨h, _⟩ | ⟨p, h, _⟩
      · rw [hmA] at h; cases h; rfl
      · rw [hmA] at h; cases h
    have hIt : Item s f := ⟨A, hmA, hrA, by omega, by omega⟩
    have b6 : Blk w6 w4.heap.size 39 [g0, g1, g2, g3, g4] := n5.blk.keep k6 (by simp)
    have z4 := k4.size
    have z5 := n5.size
    have z6 := k6.size
    have f6 : FAt (fun b => fresh w3 b ∧ b < w4.heap.size) w6 (.agg [g0, g1, g2, g3, g4].toArray) f := (fF.lt.ext n5.keep).ext k6
    have hsg : ∀ g, v4.ownBlock = some g → w0.heap.size ≤ g ∧ g < w3.heap.size := fun g hg => own_in o3 hg
    have o6 := ownsRow_ext o3 k36
    have F6 := F3.ext k36
    (refine C_region ?_
     <;> (first | refine M_slice rfl ?_ | refine W_move ?_)
     <;> (first | refine W_load_aggB rfl (by assumption) (by rfl) ?_ | refine W_load_agg rfl (by rfl) (Blk.cells (by assumption)) ?_))
    -- at operation 2: <dst=(some 71) op=(buildSlice 37 1 [[0, (tmp 70)]]) type=37 guard=none>
    refine W_buildSlice (out := [g0, g1, g2, g3, g4]) rfl (by omega) (by rw [made5]; rfl) (fun w7 n7 => ?_)
    have z7 := n7.size
    have r7 := n7.own (n := 1) (size := 5) rfl (by unfold maxLen; omega) (Nat.le_refl _)
    refine W_append (ok := anyB) (v := v4) (sv := .slice (some ⟨w6.heap.size, 0, none⟩) 1 1) rfl rfl (ownsRow_ext o6 n7.keep) (Sl_of_own r7 fun _ _ => trivial) (by omega) rfl rfl nF (by omega) (by omega) (by omega) (fun v8 w8 a8 => ?_)
    have o8 := a8.own
    have k8 : Ext w0 w8 := ((k3.trans k36).trans n7.keep).keep a8.keep fun y hy => (own_in (ownsRow_ext o6 n7.keep) (Option.mem_toList.1 hy)).1
    have hv8 : ∀ b, v8.ownBlock = some b → v4.ownBlock = some b ∨ b = w7.heap.size := fun b hb => by
      rcases a8.blk with e | e
      · exact .inl (by rw [← e]; exact hb)
      · rw [e] at hb; exact .inr (Option.some.inj hb).symm
    have F8 : FsAt (fun b => fresh w0 b ∧ v8.ownBlock ≠ some b) w8 L fs := by
      refine ((F6.lt.keep n7.keep fun _ _ => by simp).keep a8.keep ?_).mono ?_
      · rintro b ⟨⟨_, hb⟩, _⟩ hx; exact hb (Option.mem_toList.1 hx)
      · rintro b ⟨⟨h1, hb⟩, hlt⟩
        refine ⟨h1, fun e => ?_⟩
        rcases hv8 b e with e | e
        · exact hb e
        · omega
    have f8 : FAt (fun b => fresh w0 b ∧ v8.ownBlock ≠ some b) w8 (.agg [g0, g1, g2, g3, g4].toArray) f := by
      refine ((f6.ext n7.keep).keep a8.keep ?_).mono ?_
      · rintro b ⟨hb, hlt⟩ hx
        have := hsg b (Option.mem_toList.1 hx)
        simp [fresh] at hb; omega
      · rintro b ⟨hb, hlt⟩
        simp only [fresh] at hb ⊢
        refine ⟨by omega, fun e => ?_⟩
        rcases hv8 b e with e | e
        · have := hsg b e; omega
        · omega
    clear F6 f6 fF F3 hA hTA c3 c5 c6 pF hrA hmA
    ((refine M_assign ?_; (first | refine M_slice rfl ?_ | refine W_move ?_))
     <;> refine W_nil ?_)
    repeat' first | refine nx ?_ | refine C_cond_t rfl ?_ | refine C_cond_f rfl ?_ | refine Q_block_on rfl ?_
    have q5 := preT_len (s := [38]) (by simp) hI (by omega)
    have q6 := preT_len (s := [124]) (by simp) hI (by omega)
    have q7 := preT_len (s := [85]) (by simp) hI (by omega)
    have q8 := preT_len (s := [45, 62]) (by simp) hI (by omega)
    refine C_mid (α := Unit) (fun _ => [(0, .slice (some ⟨b, o, none⟩) ts.length c), (3, .bool true), (4, v8), (5, strV (chainT [38] (ts.take k))), (6, strV (chainT [124] (ts.take k))), (7, strV (chainT [85] (ts.take k))), (8, strV (chainT [45, 62] (ts.take k))), (9, .int .i64 (k : Int)), (74, .bool (decide (0 < k)))]) (fun _ W => w8 = W) ?_ ?_
    · by_cases hk0 : 0 < k
      · rw [decide_eq_true hk0]
        (refine C_region ?_
         <;> (first | refine M_int rfl ?_ | refine W_move ?_)
         <;> (refine W_gtr rfl rfl (fun hc => ?_) (fun hc => ?_) <;> try (exfalso; omega))
         <;> refine W_nil ?_)
        exact Q_join () ⟨rfl, rfl, rfl, rfl, rfl, rfl, rfl, rfl, rfl, trivial⟩ rfl
      · rw [decide_eq_false hk0]
        (refine C_region ?_
         <;> (first | refine M_int rfl ?_ | refine W_move ?_)
         <;> (refine W_gtr rfl rfl (fun hc => ?_) (fun hc => ?_) <;> try (exfalso; omega))
         <;> refine W_nil ?_)
        exact Q_join () ⟨rfl, rfl, rfl, rfl, rfl, rfl, rfl, rfl, rfl, trivial⟩ rfl
    rintro _ _ f9 rfl
    refine C_mid (α := Unit) (fun _ => [(0, .slice (some ⟨b, o, none⟩) ts.length c), (3, .bool true), (4, v8), (5, strV (preT [38] ts k)), (6, strV (preT [124] ts k)), (7, strV (preT [85] ts k)), (8, strV (preT [45, 62] ts k)), (9, .int .i64 (k : Int))]) (fun _ W => w8 = W) ?_ ?_
    · by_cases hk0 : 0 < k
      · rw [decide_eq_true hk0]
        have e5 := preT_pos (s := [38]) (ts := ts) hk0
        have e6 := preT_pos (s := [124]) (ts := ts) hk0
        have e7 := preT_pos (s := [85]) (ts := ts) hk0
        have e8 := preT_pos (s := [45, 62]) (ts := ts) hk0
        have d5 := congrArg List.length e5
        have d6 := congrArg List.length e6
        have d7 := congrArg List.length e7
        have d8 := congrArg List.length e8
        rw [List.length_append] at d5 d6 d7 d8
        repeat' first | refine nx ?_ | refine C_cond_t rfl ?_ | refine C_cond_f rfl ?_ | refine Q_block_on rfl ?_ | refine Q_join_pan ?_ | refine Q_join_ret ?_ | refine Q_join_exit ?_
        (refine C_region ?_
         <;> (first | refine M_str rfl ?_ | refine W_move ?_))
        -- at operation 1: <dst=(some 76) op=(binOp add 9 (tmp 75) (const (string <data=[38]>)) 9) type=9 guard=none>
        refine W_sadd rfl rfl (by simp; omega) ?_
        ((refine M_assign ?_; (first | refine M_str rfl ?_ | refine W_move ?_))
         <;> refine W_nil ?_)
        repeat' first | refine nx ?_ | refine C_cond_t rfl ?_ | refine C_cond_f rfl ?_ | refine Q_block_on rfl ?_ | refine Q_join_pan ?_ | refine Q_join_ret ?_ | refine Q_join_exit ?_
        (refine C_region ?_
         <;> (first | refine M_str rfl ?_ | refine W_move ?_))
        -- at operation 1: <dst=(some 78) op=(binOp add 9 (tmp 77) (const (string <data=[124]>)) 9) type=9 guard=none>
        refine W_sadd rfl rfl (by simp; omega) ?_
        ((refine M_assign ?_; (first | refine M_str rfl ?_ | refine W_move ?_))
         <;> refine W_nil ?_)
        repeat' first | refine nx ?_ | refine C_cond_t rfl ?_ | refine C_cond_f rfl ?_ | refine Q_block_on rfl ?_ | refine Q_join_pan ?_ | refine Q_join_ret ?_ | refine Q_join_exit ?_
        (refine C_region ?_
         <;> (first | refine M_str rfl ?_ | refine W_move ?_))
        -- at operation 1: <dst=(some 80) op=(binOp add 9 (tmp 79) (const (string <data=[85]>)) 9) type=9 guard=none>
        refine W_sadd rfl rfl (by simp; omega) ?_
        ((refine M_assign ?_; (first | refine M_str rfl ?_ | refine W_move ?_))
         <;> refine W_nil ?_)
        repeat' first | refine nx ?_ | refine C_cond_t rfl ?_ | refine C_cond_f rfl ?_ | refine Q_block_on rfl ?_ | refine Q_join_pan ?_ | refine Q_join_ret ?_ | refine Q_join_exit ?_
        (refine C_region ?_
         <;> (first | refine M_str rfl ?_ | refine W_move ?_))
        -- at operation 1: <dst=(some 82) op=(binOp add 9 (tmp 81) (const (string <data=[45, 62]>)) 9) type=9 guard=none>
        refine W_sadd rfl rfl (by simp; omega) ?_
        ((refine M_assign ?_; (first | refine M_str rfl ?_ | refine W_move ?_))
         <;> refine W_nil ?_)
        repeat' first | refine nx ?_ | refine C_cond_t rfl ?_ | refine C_cond_f rfl ?_ | refine Q_block_on rfl ?_ | refine Q_join_pan ?_ | refine Q_join_ret ?_ | refine Q_join_exit ?_
        exact Q_join () ⟨rfl, rfl, rfl, congrArg strV e5, congrArg strV e6, congrArg strV e7, congrArg strV e8, rfl, trivial⟩ rfl
      · rw [decide_eq_false hk0]
        have hk00 : k = 0 := by omega
        subst hk00
        repeat' first | refine nx ?_ | refine C_cond_t rfl ?_ | refine C_cond_f rfl ?_ | refine Q_block_on rfl ?_ | refine Q_join_pan ?_ | refine Q_join_ret ?_ | refine Q_join_exit ?_
        exact Q_join () ⟨rfl, rfl, rfl, congrArg strV preT_zero, congrArg strV preT_zero, congrArg strV preT_zero, congrArg strV preT_zero, rfl, trivial⟩ rfl
    rintro _ _ f9' rfl
    repeat' first | refine nx ?_ | refine C_cond_t rfl ?_ | refine C_cond_f rfl ?_ | refine Q_block_on rfl ?_
    have c8 := hce w8 k8
    (refine C_region ?_
     <;> (first | refine M_str rfl ?_ | refine W_move ?_)
     <;> (first | refine M_slice rfl ?_ | refine W_move ?_)
     <;> (first | refine M_int rfl ?_ | refine W_move ?_)
     <;> (first | refine W_idx1 rfl rfl rfl (by omega) ?_ | refine W_idx rfl rfl rfl (by omega) ?_ | refine W_indexAddr rfl rfl (by omega) (by omega) ?_)
     <;> (first | refine W_load rfl (Blk.cell (by assumption) (by rfl)) ?_ | refine W_load rfl (by assumption) ?_))
    -- at operation 5: <dst=(some 88) op=(call <callee=(value (func 20)) args=[(tmp 87)] argTypes=[9]>) type=9 guard=none>
    refine W_call (closed_ok w8 s (by omega)) rfl ?_
    rintro _ wx ⟨rfl, hw⟩
    obtain rfl := hw.symm
    refine W_sadd rfl rfl (by simp; omega) ?_
    ((refine M_assign ?_; (first | refine M_str rfl ?_ | refine W_move ?_))
     <;> refine W_nil ?_)
    repeat' first | refine nx ?_ | refine C_cond_t rfl ?_ | refine C_cond_f rfl ?_ | refine Q_block_on rfl ?_
    (refine C_region ?_
     <;> (first | refine M_str rfl ?_ | refine W_move ?_)
     <;> (first | refine M_slice rfl ?_ | refine W_move ?_)
     <;> (first | refine M_int rfl ?_ | refine W_move ?_)
     <;> (first | refine W_idx1 rfl rfl rfl (by omega) ?_ | refine W_idx rfl rfl rfl (by omega) ?_ | refine W_indexAddr rfl rfl (by omega) (by omega) ?_)
     <;> (first | refine W_load rfl (Blk.cell (by assumption) (by rfl)) ?_ | refine W_load rfl (by assumption) ?_))
    -- at operation 5: <dst=(some 95) op=(call <callee=(value (func 20)) args=[(tmp 94)] argTypes=[9]>) type=9 guard=none>
    refine W_call (closed_ok w8 s (by omega)) rfl ?_
    rintro _ wx ⟨rfl, hw⟩
    obtain rfl := hw.symm
    refine W_sadd rfl rfl (by simp; omega) ?_
    ((refine M_assign ?_; (first | refine M_str rfl ?_ | refine W_move ?_))
     <;> refine W_nil ?_)
    repeat' first | refine nx ?_ | refine C_cond_t rfl ?_ | refine C_cond_f rfl ?_ | refine Q_block_on rfl ?_
    (refine C_region ?_
     <;> (first | refine M_str rfl ?_ | refine W_move ?_)
     <;> (first | refine M_slice rfl ?_ | refine W_move ?_)
     <;> (first | refine M_int rfl ?_ | refine W_move ?_)
     <;> (first | refine W_idx1 rfl rfl rfl (by omega) ?_ | refine W_idx rfl rfl rfl (by omega) ?_ | refine W_indexAddr rfl rfl (by omega) (by omega) ?_)
     <;> (first | refine W_load rfl (Blk.cell (by assumption) (by rfl)) ?_ | refine W_load rfl (by assumption) ?_))
    -- at operation 5: <dst=(some 102) op=(call <callee=(value (func 20)) args=[(tmp 101)] argTypes=[9]>) type=9 guard=none>
    refine W_call (closed_ok w8 s (by omega)) rfl ?_
    rintro _ wx ⟨rfl, hw⟩
    obtain rfl := hw.symm
    refine W_sadd rfl rfl (by simp; omega) ?_
    ((refine M_assign ?_; (first | refine M_str rfl ?_ | refine W_move ?_))
     <;> refine W_nil ?_)
    repeat' first | refine nx ?_ | refine C_cond_t rfl ?_ | refine C_cond_f rfl ?_ | refine Q_block_on rfl ?_
    (refine C_region ?_
     <;> (first | refine M_str rfl ?_ | refine W_move ?_)
     <;> (first | refine M_slice rfl ?_ | refine W_move ?_)
     <;> (first | refine M_int rfl ?_ | refine W_move ?_)
     <;> (first | refine W_idx1 rfl rfl rfl (by omega) ?_ | refine W_idx rfl rfl rfl (by omega) ?_ | refine W_indexAddr rfl rfl (by omega) (by omega) ?_)
     <;> (first | refine W_load rfl (Blk.cell (by assumption) (by rfl)) ?_ | refine W_load rfl (by assumption) ?_))
    -- at operation 5: <dst=(some 109) op=(call <callee=(value (func 20)) args=[(tmp 108)] argTypes=[9]>) type=9 guard=none>
    refine W_call (closed_ok w8 s (by omega)) rfl ?_
    rintro _ wx ⟨rfl, hw⟩
    obtain rfl := hw.symm
    refine W_sadd rfl rfl (by simp; omega) ?_
    ((refine M_assign ?_; (first | refine M_str rfl ?_ | refine W_move ?_))
     <;> refine W_nil ?_)
    repeat' first | refine nx ?_ | refine C_cond_t rfl ?_ | refine C_cond_f rfl ?_ | refine Q_block_on rfl ?_
    (refine C_region ?_
     <;> (first | refine M_int rfl ?_ | refine W_move ?_)
     <;> refine W_add rfl rfl (by first | exact inR_i64 (by omega) (by omega) | exact inR_u8 (by omega) (by omega) | exact inR_u16 (by omega) (by omega)) ?_
     <;> (refine M_assign ?_; (first | refine M_int rfl ?_ | refine W_move ?_))
     <;> refine W_nil ?_)
    repeat' first | refine nx ?_ | refine C_cond_t rfl ?_ | refine C_cond_f rfl ?_ | refine Q_block_on rfl ?_
    refine ⟨(k + 1, v8, L ++ [[g0, g1, g2, g3, g4]], fs ++ [f]), ⟨rfl, ⟨rfl, rfl, rfl, congrArg strV (preT_next hs), congrArg strV (preT_next hs), congrArg strV (preT_next hs), congrArg strV (preT_next hs), ?_, trivial⟩, ⟨by simp only; omega, k8, items_next hI hs hIt, ?_, F8.snoc f8 rfl⟩⟩, by simp only; omega⟩
    · show Value.int .i64 ((k : Int) + 1) = _
      rw [Int.natCast_add]; rfl
    · have e1 : (L ++ [[g0, g1, g2, g3, g4]]).flatten = L.flatten ++ [g0, g1, g2, g3, g4] := by simp
      simp only
      rw [e1]
      exact o8
  · have hkn : k = ts.length := by omega
    subst hkn
    rw [List.take_length] at hI ⊢
    (refine C_region ?_
     <;> (first | refine M_int rfl ?_ | refine W_move ?_)
     <;> (first | refine M_slice rfl ?_ | refine W_move ?_)
     <;> refine W_len rfl ?_
     <;> (refine W_lss rfl rfl (fun hc => ?_) (fun hc => ?_) <;> try (exfalso; omega))
     <;> refine W_nil ?_)
    repeat' first | refine nx ?_ | refine C_cond_t rfl ?_ | refine C_cond_f rfl ?_ | refine Q_block_on rfl ?_
    obtain ⟨m, hm⟩ : ∃ m, ts.length = m + 1 := ⟨ts.length - 1, by omega⟩
    have hS := Sl_of_own (ok := fun g => g < w3.heap.size) o3 (fun g hg => (own_in o3 hg).2)
    obtain ⟨sa, sc, rfl, _⟩ := id hS
    obtain ⟨f, hf⟩ : ∃ f, fs[m]? = some f := ⟨_, List.getElem?_eq_getElem (by omega)⟩
    obtain ⟨cm, hcm⟩ : ∃ cm, L[m]? = some cm := ⟨_, List.getElem?_eq_getElem (by rw [F3.1]; omega)⟩
    obtain ⟨lb, lo, rfl, hlb, hcl⟩ := hS.fml F3.2.1 hcm (by omega)
    obtain ⟨g0, g1, g2, g3, g4, rfl⟩ := cells5 (F3.2.1 cm (List.mem_of_getElem? hcm))
    have fm := F3.2.2 m _ _ hcm hf
    have nm := fmlR.one (ok := _) ⟨rfl, fm⟩
    (refine C_region ?_
     <;> (first | refine M_slice rfl ?_ | refine W_move ?_)
     <;> (first | refine M_slice rfl ?_ | refine W_move ?_)
     <;> refine W_len rfl ?_
     <;> refine W_sub rfl rfl (by first | exact inR_i64 (by omega) (by omega) | exact inR_u8 (by omega) (by omega) | exact inR_u16 (by omega) (by omega)) ?_)
    rw [show ((ts.length : Nat) : Int) - 1 = (m : Int) by omega]
    refine W_idx rfl rfl rfl (by omega) ?_
    refine W_load_agg rfl rfl hcl ?_
    refine W_newAgg (cs := [g0, g1, g2, g3, g4]) rfl rfl (by rfl) nm (fun wa na => ?_)
    (refine W_nil ?_)
    repeat' first | refine nx ?_ | refine C_cond_t rfl ?_ | refine C_cond_f rfl ?_ | refine Q_block_on rfl ?_
    have bu := na.blk
    (refine C_region ?_
     <;> (first | refine W_load_aggB rfl (by assumption) (by rfl) ?_ | refine W_load_agg rfl (by rfl) (Blk.cells (by assumption)) ?_))
    -- at operation 1: <dst=(some 17) op=(alloc 39) type=0 guard=none>
    refine W_newAgg (cs := [g0, g1, g2, g3, g4]) rfl rfl (by rfl) nm (fun wb nb => ?_)
    (refine W_nil ?_)
    repeat' first | refine nx ?_ | refine C_cond_t rfl ?_ | refine C_cond_f rfl ?_ | refine Q_block_on rfl ?_
    (refine C_region ?_
     <;> (first | refine M_slice rfl ?_ | refine W_move ?_)
     <;> refine W_len rfl ?_
     <;> refine W_sub rfl rfl (by first | exact inR_i64 (by omega) (by omega) | exact inR_u8 (by omega) (by omega) | exact inR_u16 (by omega) (by omega)) ?_
     <;> (refine M_assign ?_; (first | refine M_int rfl ?_ | refine W_move ?_))
     <;> refine W_nil ?_)
    repeat' first | refine nx ?_ | refine C_cond_t rfl ?_ | refine C_cond_f rfl ?_ | refine Q_block_on rfl ?_
    have za := na.size
    have zb := nb.size
    have kab : Ext w3 wb := na.keep.trans nb.keep
    have k0b := k3.trans kab
    have Fb : FsAt (fun b => b ≠ w3.heap.size ∧ b ≠ wa.heap.size) wb L fs := (F3.lt.ext kab).mono fun x hx => by have := hx.2; omega
    have Sb : Sl (fun b => b ≠ w3.heap.size ∧ b ≠ wa.heap.size) wb (.slice (some ⟨lb, lo, none⟩) ts.length sc) ts.length L.flatten := (hS.ext kab).mono fun x hx => by omega
    have eu := grpF_last (op := 9) hf (by omega)
    have ep := grpF_last (op := 7) hf (by omega)
    have fmb : FAt (fun b => b ≠ w3.heap.size ∧ b ≠ wa.heap.size) wb (.agg [g0, g1, g2, g3, g4].toArray) f := Fb.2.2 m _ _ hcm hf
    refine C_loop (α := Nat × List Value × List Value) (fun x => [(0, .slice (some ⟨b, o, none⟩) ts.length c), (3, .bool true), (4, .slice (some ⟨lb, lo, none⟩) ts.length sc), (5, strV (chainT [38] ts)), (6, strV (chainT [124] ts)), (7, strV (chainT [85] ts)), (8, strV (chainT [45, 62] ts)), (16, pt w3.heap.size), (17, pt wa.heap.size), (18, .int .i64 ((x.1 : Int) - 1))])
      (fun x W => x.1 ≤ m ∧ Keep [w3.heap.size, wa.heap.size] wb W ∧ x.2.1.length = 5 ∧ x.2.2.length = 5 ∧ Blk W w3.heap.size 39 x.2.1 ∧ Blk W wa.heap.size 39 x.2.2 ∧
        FAt (fun b => b ≠ w3.heap.size ∧ b ≠ wa.heap.size) W (.agg x.2.1.toArray) (grpF 9 (fs.drop x.1)) ∧ FAt (fun b => b ≠ w3.heap.size ∧ b ≠ wa.heap.size) W (.agg x.2.2.toArray) (grpF 7 (fs.drop x.1)))
      (fun x => x.1) (m, [g0, g1, g2, g3, g4], [g0, g1, g2, g3, g4]) ⟨rfl, rfl, rfl, rfl, rfl, rfl, rfl, rfl, rfl, congrArg (Value.int .i64) (by omega), trivial⟩
      ⟨Nat.le_refl _, Keep.refl _ _, rfl, rfl, bu.keep nb.keep (by simp), nb.blk, by simp only; rw [eu]; exact fmb, by simp only; rw [ep]; exact fmb⟩ ?_
    rintro ⟨k, cu, cp⟩ w5 f5 ⟨hk5, k5, lu, lp, bu5, bp5, fu, fp⟩
    simp only at hk5 k5 lu lp bu5 bp5 fu fp ⊢
    have F5 := Fb.keep k5 (fun x hx => by simp; exact hx)
    have S5 := Sb.keep k5 (fun x hx => by simp; exact hx)
    have z5 := k5.size
    repeat' first | refine nx ?_ | refine C_cond_t rfl ?_ | refine C_cond_f rfl ?_ | refine Q_block_on rfl ?_
    cases k with
    | succ j =>
      rw [show ((j + 1 : Nat) : Int) - 1 = (j : Int) by omega]
      obtain ⟨x, hx⟩ : ∃ x, fs[j]? = some x := ⟨_, List.getElem?_eq_getElem (by omega)⟩
      obtain ⟨cx, hcx⟩ : ∃ cx, L[j]? = some cx := ⟨_, List.getElem?_eq_getElem (by rw [F3.1]; omega)⟩
      obtain ⟨_, _, hbl, hlb5, hclj⟩ := S5.fml F5.2.1 hcx (by omega)
      cases hbl
      obtain ⟨x0, x1, x2, x3, x4, rfl⟩ := cells5 (F5.2.1 cx (List.mem_of_getElem? hcx))
      have fx := F5.2.2 j _ _ hcx hx
      have e9 := grpF_cons (op := 9) hx (by omega)
      have e7 := grpF_cons (op := 7) hx (by omega)
      (refine C_region ?_
       <;> (first | refine M_int rfl ?_ | refine W_move ?_)
       <;> (refine W_geq rfl rfl (fun hc => ?_) (fun hc => ?_) <;> try (exfalso; omega))
       <;> refine W_nil ?_)
      repeat' first | refine nx ?_ | refine C_cond_t rfl ?_ | refine C_cond_f rfl ?_ | refine Q_block_on rfl ?_
      refine C_drawN (.read 0 (.read 1 (.read 2 (.read 3 (.alt 4 (.alt 5 (.alt 6 .done .stop) .stop) .stop))))) mixed (by kernel_rfl) (fun wd kd ed => ⟨Keep [w3.heap.size, wa.heap.size] wd, ?_, ?_⟩)
      · exact Keep.refl _ _
      have hd0 := kd.size
      have ca : ∀ W, Keep [w3.heap.size, wa.heap.size] wd W → Cells W lb (lo + j * 5) [x0, x1, x2, x3, x4] := fun W e => (hclj.keep kd (by simp)).keep e (by simp; exact hlb5)
      ((apply D_R rfl rfl; (intro W hW; (first | refine M_slice rfl ?_ | refine W_move ?_); exact W_nil ⟨rfl, rfl, rfl⟩))
       <;> (apply D_R rfl rfl; (intro W hW; (first | refine M_int rfl ?_ | refine W_move ?_); exact W_nil ⟨rfl, rfl, rfl⟩))
       <;> (apply D_R rfl rfl; (intro W hW; (first | refine W_idx1 rfl rfl rfl (by omega) ?_ | refine W_idx rfl rfl rfl (by omega) ?_ | refine W_indexAddr rfl rfl (by omega) (by omega) ?_); exact W_nil ⟨rfl, rfl, rfl⟩))
       <;> (apply D_R rfl rfl; (intro W hW; (first | refine W_load rfl (ca W hW) ?_ | refine W_load_agg rfl (by rfl) (ca W hW) ?_); exact W_nil ⟨rfl, rfl, rfl⟩)))
      -- at place 4, operation 4: <dst=(some 129) op=(load 39 (tmp 16)) type=39 guard=none>
      refine D_E rfl ?_
      refine W_load_aggB rfl (bu5.keep kd (by simp)) lu ?_
      refine W_nil ⟨_, fun _ h => h, Keep.refl _ _, ?_⟩
      refine D_E rfl ?_
      refine W_call (rtwoX_ok wd 9 (fun b => b ≠ w3.heap.size ∧ b ≠ wa.heap.size) _ _ x _ (fx.ext kd) (fu.ext kd) (fun q hq => ⟨by omega, by omega⟩)) rfl ?_
      rintro vz wz ⟨kz, fz⟩
      refine W_nil ⟨_, fun _ h => h, Ext.any kz, ?_⟩
      refine D_E rfl ?_
      refine W_storeF rfl rfl fz ((bu5.keep kd (by simp)).keep kz (by simp)) lu (fun wy cv e hcs ky zy by' => ?_)
      refine W_nil ⟨_, fun _ h => h, (Ext.any kz).trans ky (by simp), ?_⟩
      refine D_nil ?_
      have kA : Keep [w3.heap.size, wa.heap.size] w5 wy := ((Ext.any kd).trans kz (by simp)).trans ky (by simp)
      have buA := by'
      have lvA := hcs
      have fuA : FAt (fun b => b ≠ w3.heap.size ∧ b ≠ wa.heap.size) wy (.agg cv.toArray) (grpF 9 (fs.drop j)) := by
        rw [e9, ← e]; exact fz.keep ky (fun q hq => by simp; exact hq.1)
      have bpA := ((bp5.keep kd (by simp)).keep kz (by simp)).keep ky (by simp; omega)
      have fpA := fp.keep kA (fun x hx => by simp; exact hx)
      have fxA := fx.keep kA (fun x hx => by simp; exact hx)
      have hclA := hclj.keep kA (by simp; exact hlb5)
      have zA := kA.size
      clear kd kz ky fz by' hcs e ca hd0
      repeat' first | refine nx ?_ | refine C_cond_t rfl ?_ | refine C_cond_f rfl ?_ | refine Q_block_on rfl ?_
      refine C_drawN (.read 0 (.read 1 (.read 2 (.read 3 (.alt 4 (.alt 5 (.alt 6 .done .stop) .stop) .stop))))) mixed (by kernel_rfl) (fun wd kd ed => ⟨Keep [w3.heap.size, wa.heap.size] wd, ?_, ?_⟩)
      · exact Keep.refl _ _
      have hd0 := kd.size
      have ca : ∀ W, Keep [w3.heap.size, wa.heap.size] wd W → Cells W lb (lo + j * 5) [x0, x1, x2, x3, x4] := fun W e => (hclA.keep kd (by simp)).keep e (by simp; exact hlb5)
      ((apply D_R rfl rfl; (intro W hW; (first | refine M_slice rfl ?_ | refine W_move ?_); exact W_nil ⟨rfl, rfl, rfl⟩))
       <;> (apply D_R rfl rfl; (intro W hW; (first | refine M_int rfl ?_ | refine W_move ?_); exact W_nil ⟨rfl, rfl, rfl⟩))
       <;> (apply D_R rfl rfl; (intro W hW; (first | refine W_idx1 rfl rfl rfl (by omega) ?_ | refine W_idx rfl rfl rfl (by omega) ?_ | refine W_indexAddr rfl rfl (by omega) (by omega) ?_); exact W_nil ⟨rfl, rfl, rfl⟩))
       <;> (apply D_R rfl rfl; (intro W hW; (first | refine W_load rfl (ca W hW) ?_ | refine W_load_agg rfl (by rfl) (ca W hW) ?_); exact W_nil ⟨rfl, rfl, rfl⟩)))
      -- at place 4, operation 4: <dst=(some 135) op=(load 39 (tmp 17)) type=39 guard=none>
      refine D_E rfl ?_
      refine W_load_aggB rfl (bpA.keep kd (by simp)) lp ?_
      refine W_nil ⟨_, fun _ h => h, Keep.refl _ _, ?_⟩
      refine D_E rfl ?_
      refine W_call (rtwoX_ok wd 7 (fun b => b ≠ w3.heap.size ∧ b ≠ wa.heap.size) _ _ x _ (fxA.ext kd) (fpA.ext kd) (fun q hq => ⟨by omega, by omega⟩)) rfl ?_
      rintro vz wz ⟨kz, fz⟩
      refine W_nil ⟨_, fun _ h => h, Ext.any kz, ?_⟩
      refine D_E rfl ?_
      refine W_storeF rfl rfl fz ((bpA.keep kd (by simp)).keep kz (by simp)) lp (fun wy cq e hcs ky zy by' => ?_)
      refine W_nil ⟨_, fun _ h => h, (Ext.any kz).trans ky (by simp), ?_⟩
      refine D_nil ?_
      have kB : Keep [w3.heap.size, wa.heap.size] w5 wy := ((kA.trans kd (by simp)).trans kz (by simp)).trans ky (by simp)
      have fpB : FAt (fun b => b ≠ w3.heap.size ∧ b ≠ wa.heap.size) wy (.agg cq.toArray) (grpF 7 (fs.drop j)) := by
        rw [e7, ← e]; exact fz.keep ky (fun q hq => by simp; exact hq.2)
      have buB := ((buA.keep kd (by simp)).keep kz (by simp)).keep ky (by simp; omega)
      have fuB := ((fuA.ext kd).ext kz).keep ky (fun q hq => by simp; exact hq.2)
      repeat' first | refine nx ?_ | refine C_cond_t rfl ?_ | refine C_cond_f rfl ?_ | refine Q_block_on rfl ?_
      (refine C_region ?_
       <;> (first | refine M_int rfl ?_ | refine W_move ?_)
       <;> refine W_sub rfl rfl (by first | exact inR_i64 (by omega) (by omega) | exact inR_u8 (by omega) (by omega) | exact inR_u16 (by omega) (by omega)) ?_
       <;> (refine M_assign ?_; (first | refine M_int rfl ?_ | refine W_move ?_))
       <;> refine W_nil ?_)
      repeat' first | refine nx ?_ | refine C_cond_t rfl ?_ | refine C_cond_f rfl ?_ | refine Q_block_on rfl ?_
      refine ⟨(j, cv, cq), ⟨rfl, ⟨rfl, rfl, rfl, rfl, rfl, rfl, rfl, rfl, rfl, rfl, trivial⟩, ⟨by simp only; omega, k5.trans kB (by simp), lvA, hcs, buB, by', fuB, fpB⟩⟩, by simp only; omega⟩
    | zero =>
      rw [List.drop_zero] at fu fp
      (refine C_region ?_
       <;> (first | refine M_int rfl ?_ | refine W_move ?_)
       <;> (refine W_geq rfl rfl (fun hc => ?_) (fun hc => ?_) <;> try (exfalso; omega))
       <;> refine W_nil ?_)
      repeat' first | refine nx ?_ | refine C_cond_t rfl ?_ | refine C_cond_f rfl ?_ | refine Q_block_on rfl ?_
      have lawC := chain_law hI (by omega) (by omega)
      have S5' : Sl (fun b => b ≠ w3.heap.size ∧ b ≠ wa.heap.size) w5 (.slice (some ⟨lb, lo, none⟩) fs.length sc) fs.length L.flatten := by rw [hfl]; exact S5
      obtain ⟨u0, u1, u2, u3, u4, rfl⟩ := cells5 lu
      obtain ⟨p0, p1, p2, p3, p4, rfl⟩ := cells5 lp
      have kE : Ext w w5 := (k0.trans k0b).keep k5 (by have := k0b.size; have := k0.size; have := k3.size; simp; omega)
      (refine C_region ?_
       <;> (first | refine M_bool rfl ?_ | refine W_move ?_)
       <;> (first | refine M_bool rfl ?_ | refine W_move ?_)
       <;> (first | refine W_no rfl ?_ | (refine W_yes rfl ?_; (first | refine M_str rfl ?_ | refine W_move ?_)))
       <;> (first | refine W_no rfl ?_ | (refine W_yes rfl ?_; (first | refine M_slice rfl ?_ | refine W_move ?_))))
      -- at operation 4: <dst=(some 141) op=(call <callee=(value (func 22)) args=[(const (int i64 5)), (tmp 140)] argTypes=[3, 37]>) type=39 guard=(some [1, true])>
      (refine W_yes rfl ?_; refine W_call (rop_ok w5 5 _ _ _ _ fs S5' F5) (by rw [hfl]; rfl) ?_)
      rintro vA w6 ⟨k6, fA⟩
      (refine W_yes rfl ?_; refine W_call (parses_ok w6 (chainT [38] ts) _ ⟨5, [], 0, 0, fs⟩ (fA.mono fun _ _ => trivial) (hG.ext (kE.trans k6))) rfl ?_)
      rintro _ w7 ⟨bb, rfl, hb, k7⟩
      obtain rfl : bb = true := hb.2 lawC.1
      have k57 := k6.trans k7
      have S7 := S5'.ext k57
      have F7 := F5.ext k57
      (((first | refine M_pick_t rfl ?_ | refine M_pick_f rfl ?_); (first | refine M_bool rfl ?_ | refine W_move ?_))
       <;> (first | refine M_bool rfl ?_ | refine W_move ?_)
       <;> (first | refine W_no rfl ?_ | (refine W_yes rfl ?_; (first | refine M_str rfl ?_ | refine W_move ?_)))
       <;> (first | refine W_no rfl ?_ | (refine W_yes rfl ?_; (first | refine M_slice rfl ?_ | refine W_move ?_))))
      -- at operation 10: <dst=(some 147) op=(call <callee=(value (func 22)) args=[(const (int i64 6)), (tmp 146)] argTypes=[3, 37]>) type=39 guard=(some [7, true])>
      (refine W_yes rfl ?_; refine W_call (rop_ok w7 6 _ _ _ _ fs S7 F7) (by rw [hfl]; rfl) ?_)
      rintro vB w8 ⟨k8, fB⟩
      (refine W_yes rfl ?_; refine W_call (parses_ok w8 (chainT [124] ts) _ ⟨6, [], 0, 0, fs⟩ (fB.mono fun _ _ => trivial) (hG.ext ((kE.trans k57).trans k8))) rfl ?_)
      rintro _ w9 ⟨bb, rfl, hb, k9⟩
      obtain rfl : bb = true := hb.2 lawC.2.1
      have k59 := (k57.trans k8).trans k9
      have bu9 := bu5.keep k59 (by simp)
      (((first | refine M_pick_t rfl ?_ | refine M_pick_f rfl ?_); (first | refine M_bool rfl ?_ | refine W_move ?_))
       <;> (first | refine M_bool rfl ?_ | refine W_move ?_)
       <;> (first | refine W_no rfl ?_ | (refine W_yes rfl ?_; (first | refine M_str rfl ?_ | refine W_move ?_)))
       <;> (first | refine W_no rfl ?_ | (refine W_yes rfl ?_; (first | refine W_load_aggB rfl (by assumption) (by rfl) ?_ | refine W_load_agg rfl (by rfl) (Blk.cells (by assumption)) ?_))))
      -- at operation 16: <dst=(some 153) op=(call <callee=(value (func 19)) args=[(tmp 151), (tmp 152)] argTypes=[9, 39]>) type=4 guard=(some [13, true])>
      (refine W_yes rfl ?_; refine W_call (parses_ok w9 (chainT [85] ts) _ (grpF 9 fs) ((fu.mono fun _ _ => trivial).ext k59) (hG.ext (kE.trans k59))) rfl ?_)
      rintro _ w10 ⟨bb, rfl, hb, k10⟩
      obtain rfl : bb = true := hb.2 lawC.2.2.1
      have k510 := k59.trans k10
      have bp10 := bp5.keep k510 (by simp)
      (((first | refine M_pick_t rfl ?_ | refine M_pick_f rfl ?_); (first | refine M_bool rfl ?_ | refine W_move ?_))
       <;> (first | refine M_bool rfl ?_ | refine W_move ?_)
       <;> (first | refine W_no rfl ?_ | (refine W_yes rfl ?_; (first | refine M_str rfl ?_ | refine W_move ?_)))
       <;> (first | refine W_no rfl ?_ | (refine W_yes rfl ?_; (first | refine W_load_aggB rfl (by assumption) (by rfl) ?_ | refine W_load_agg rfl (by rfl) (Blk.cells (by assumption)) ?_))))
      -- at operation 21: <dst=(some 158) op=(call <callee=(value (func 19)) args=[(tmp 156), (tmp 157)] argTypes=[9, 39]>) type=4 guard=(some [18, true])>
      (refine W_yes rfl ?_; refine W_call (parses_ok w10 (chainT [45, 62] ts) _ (grpF 7 fs) ((fp.mono fun _ _ => trivial).ext k510) (hG.ext (kE.trans k510))) rfl ?_)
      rintro _ w11 ⟨bb, rfl, hb, k11⟩
      obtain rfl : bb = true := hb.2 lawC.2.2.2
      (((first | refine M_pick_t rfl ?_ | refine M_pick_f rfl ?_); (first | refine M_bool rfl ?_ | refine W_move ?_))
       <;> (refine M_assign ?_; (first | refine M_bool rfl ?_ | refine W_move ?_))
       <;> refine W_nil ?_)
      repeat' first | refine nx ?_ | refine C_cond_t rfl ?_ | refine C_cond_f rfl ?_ | refine Q_block_on rfl ?_
      exact fin_ret1 rfl ⟨rfl, (kE.trans k510).trans k11⟩
end Go.Proofs.YtmnhnbpnjepkbaaGreatDoor

namespace Go.Proofs.YtmnhnbpnjepkbaaGreatDoor
open Go.ChangeShapes Go.WideShapes Go.ChangeAt Go.RowKit
open Go.ChangeMaps (open_string)

section
variable {H : Type} {enc : TypeId × Value → H} {P : Program} {W W' : World}

theorem sameAt_ext (he : Ext W W') {p : MemPlace} (hp : p.block < W.heap.size) : W.sameAt W' p := by
  cases p with
  | cell b off => exact World.cell?_of_block (w := W) (a := ⟨b, off, none⟩) (he.block b hp (by simp))
  | map b => exact he.block b hp (by simp)

theorem trodAll_ext (K : Kids P (· < P.types.size)) (hz : ∀ t e, t < P.types.size → P.underlying t = some (.slice e) → 0 < P.cellsOf e) (he : Ext W W') {sp : Nat → Bool} :
    ∀ {ts : List TypeId} {vs : List Value} {ds : List (DataW H)} {ps : List MemPlace}, (∀ t ∈ ts, t < P.types.size) → DataW.TrodAll enc P W 0 (fun _ => true) true ts vs ds ps →
      (∀ p ∈ ps, p.block < W.heap.size) → (∀ p ∈ ps, sp p.block = true) → DataW.TrodAll enc P W' 0 sp true ts vs ds ps
  | [], [], [], _, _, h, _, _ => h
  | _ :: _, _ :: _, _ :: _, _, hT, ⟨p, q, ⟨n, h1⟩, h2, e⟩, hl, hs => by
    subst e
    refine ⟨p, q, ⟨n, DataW.trod_stays K (fun ht hu => hz _ _ ht hu) (fun h => by cases h) (hT _ (by simp)) h1 (fun x hx => sameAt_ext he (hl x (List.mem_append_left _ hx))) fun x hx => hs x (List.mem_append_left _ hx)⟩, ?_, rfl⟩
    exact trodAll_ext K hz he (fun t ht => hT t (List.mem_cons_of_mem _ ht)) h2 (fun x hx => hl x (List.mem_append_right _ hx)) fun x hx => hs x (List.mem_append_right _ hx)

theorem keptBut_ext (he : Ext W W') (may : MemPlace → Prop) : W.keptBut W' may := by
  refine ⟨he.os, he.output, fun i hi => ?_⟩
  rw [he.block i hi (by simp)]
  exact (World.keptBut_refl W may).2.2 i hi

/-- a law that answers true in a world where all is as it was -/
theorem post_of_ext (K : Kids P (· < P.types.size)) (hz : ∀ t e, t < P.types.size → P.underlying t = some (.slice e) → 0 < P.cellsOf e) {f : Func} {s : ChangeSpec} {apart fresh handsOn : Bool} {args : Array Value} {v : Value} {ds gs : List (DataW H)} {before : List MemPlace} {tb : TypeId}
    (hts : ∀ t ∈ f.params.toList, t < P.types.size) (hs : s.vars = []) (hW : DataW.Whole enc P f.params.toList s.vars apart W args.toList ds gs before)
    (hfn : s.fn H (ds ++ gs) = { results := [.lit (.bool true)], args := ds }) (hrt : f.resultTypes = #[tb]) (htb : P.underlying tb = some .bool) (hv : v = .bool true) (he : Ext W W') :
    s.post enc P f apart fresh handsOn false W args v W' := by
  subst hv
  have hlt : ∀ p ∈ before, p.block < W.heap.size := hW.lt
  obtain ⟨p, q, hA, hV, rfl, hf, hn⟩ := id hW
  have hq : gs = [] ∧ q = [] := by
    rw [hs] at hV
    cases gs with
    | nil => exact ⟨rfl, hV⟩
    | cons _ _ => exact hV.elim
  obtain ⟨rfl, rfl⟩ := hq
  refine ⟨ds, [], _, [], p, [], hW, ?_, ?_, ?_, keptBut_ext he _, (fun h => by cases h)⟩
  · rw [hfn, hrt]
    exact trodAll_cons_mk (shut_bool htb true) trodAll_mk0
  · rw [hfn]
    exact trodAll_ext K hz he hts hA (fun x hx => hlt x (List.mem_append_left _ hx)) fun x hx => by simpa using hlt x (List.mem_append_left _ hx)
  · rw [hfn, hs]; exact rfl
end

theorem kids : Kids Tryz.prog (· < Tryz.prog.types.size) := kids_rows (by kernel_rfl) (by kernel_rfl)
theorem full : ∀ t e, t < Tryz.prog.types.size → Tryz.prog.underlying t = some (.slice e) → 0 < Tryz.prog.cellsOf e := slices_full_of Tryz.prog (by kernel_rfl)
theorem own : ownKnob Tryz.prog.godebug = none := by kernel_rfl

section
variable {H : Type} {enc : TypeId × Value → H} {P : Program} {W : World} {sp : Nat → Bool} {hd : Bool}
theorem spot_none {a : Addr} {v : Value} (h : W.cell? a = some v) : a.spot = none := by
  cases ha : a.spot with
  | none => rfl
  | some _ =>
    unfold World.cell? at h
    split at h
    · simp [ha] at h
    · cases h

theorem val_one {r : Reach} {t e : TypeId} {v u : Value} {b : Nat} (ht : P.underlying t = some (.slice e)) (hval : Value.okWide P W r b t v) (h : v.cells.toList = [u]) : v = u := by
  obtain ⟨a, l, c, rfl⟩ := okWide_slice ht hval
  simpa [Value.cells] using h
end
set_option maxRecDepth 100000 in
/-- a law's step: what is left is its walk -/
theorem law_lifted {os : Os} (started : os.Started) {k : FuncId} {fn : Func} {s : ChangeSpec} {conds : List PathCond} {fresh : Bool} {H : Type} {enc : TypeId × Value → H} (noInit : Tryz.prog.inits.idxOf? k = none) (hfn : Tryz.prog.funcs[k]? = some fn)
    (witness : ∃ (w : World) (tape : Tape) (i : Input), w.os = os ∧ (w.forCall tape i).Shaped Tryz.prog ∧ i.vars = [] ∧ Input.okWide Tryz.prog (w.forCall tape i) .any w.heap.size k i ∧
      s.pre6 enc Tryz.prog fn conds false (w.forCall tape i).memory i.args ∧ ({} : Assume).holds Tryz.prog (lone (Frame.enter Tryz.prog k i.args .normal) [] (w.forCall tape i)))
    (hs : s.vars = []) (hts : (fn.params.toList.all fun t => decide (t < Tryz.prog.types.size)) = true) (hrt : fn.resultTypes = #[4])
    (hspec : ∀ ds : List (DataW H), ds.length = fn.params.toList.length → s.fn H ds = { results := [.lit (.bool true)], args := ds })
    (law : ∀ (W : World) (base : Nat) (args : List Value) (ds : List (DataW H)) (p : List MemPlace), (∀ (j : Nat) t v, fn.params.toList[j]? = some t → args[j]? = some v → Value.okWide Tryz.prog W .any base t v) →
      DataW.TrodAll enc Tryz.prog W 0 (fun _ => true) true fn.params.toList args ds p → Fn Tryz.prog k args W fun v w' => v = .bool true ∧ Ext W w') :
    ReturnsInHanded {} Tryz.checked os k .any (s.pre6 enc Tryz.prog fn conds false) (s.post enc Tryz.prog fn false fresh false false) := by
  refine returnsInHanded_of_change (C := Tryz.checked) own started noInit hfn witness ?_
  intro W base args ds gs before hval hW _ _
  have hW' := hW
  obtain ⟨p, q, hA, hV, rfl, hf, hn⟩ := hW
  have hg : gs = [] := by
    rw [hs] at hV
    cases gs with
    | nil => rfl
    | cons _ _ => exact hV.elim
  subst hg
  have hlen : ∀ {ts : List TypeId} {vs : List Value} {ds : List (DataW H)} {ps : List MemPlace}, DataW.TrodAll enc Tryz.prog W 0 (fun _ => true) true ts vs ds ps → ds.length = ts.length := by
    intro ts
    induction ts with
    | nil => intro vs ds ps h; obtain ⟨rfl, rfl, rfl⟩ := trodAll_nil h; rfl
    | cons t ts ih => intro vs ds ps h; obtain ⟨v, vs1, d, ds1, a, b, rfl, rfl, rfl, h1, h2⟩ := trodAll_cons h; simp [ih h2]
  refine Calls.mono (law W base args.toList ds p (fun j t v h1 h2 => hval j t v (Array.getElem?_toList.symm.trans h1) (Array.getElem?_toList.symm.trans h2)) hA) fun e W' he => ?_
  cases e with
  | returned v =>
    refine ⟨v, rfl, post_of_ext kids full (fun t ht => of_decide_eq_true (List.all_eq_true.1 hts t ht)) hs hW' ?_ hrt Tryz.underlying4 he.1 he.2⟩
    rw [List.append_nil]; exact hspec ds (hlen hA)
  | panicked ch => exact he.elim
  | outgrown => exact he.elim

end Go.Proofs.YtmnhnbpnjepkbaaGreatDoor

namespace Go.Proofs.YtmnhnbpnjepkbaaGreatDoor
open Go.ChangeShapes Go.WideShapes Go.ChangeAt Go.RowKit
set_option linter.unusedVariables false

section
variable {H : Type} {enc : TypeId × Value → H} {P : Program} {w : World} {base : Nat} {sp : Nat → Bool} {held : Bool}
theorem trod_arr {fuel : Nat} {t e : TypeId} {n c : Nat} {cs : List Value} {ds : List (DataW H)} {p : List MemPlace} (ht : P.underlying t = some (.array n e)) (hce : P.cellsOf e = c) (hct : P.cellsOf t = n * c)
    (h : DataW.trod enc P w base sp held fuel t cs = some (.agg ds, p)) : cs.length = n * c ∧ ∃ m, ∀ i, i < n → ∃ d q, ds[i]? = some d ∧ DataW.trod enc P w base sp held m e ((cs.drop (i * c)).take c) = some (d, q) := by
  cases fuel with
  | zero => simp [DataW.trod] at h
  | succ fuel =>
    simp only [DataW.trod, ht, hce, hct] at h
    split at h
    · rename_i hl
      obtain ⟨xs, hm, hx⟩ := Option.map_eq_some_iff.1 h
      have hxs : xs.map (·.1) = ds := by
        have := congrArg Prod.fst hx
        simpa using this
      refine ⟨hl, fuel, fun i hi => ?_⟩
      obtain ⟨b, hb, hf⟩ := Lib.mapM_at hm i i (by simp [hi])
      exact ⟨b.1, b.2, by rw [← hxs, List.getElem?_map, hb]; rfl, hf⟩
    · cases h
end

def spanD (p : Nat × Nat × Nat) : DataW Unit := .agg [.lit (.int .u8 (p.1 : Int)), .lit (.int .u8 (p.2.1 : Int)), .lit (.int .i64 (p.2.2 : Int))]
theorem cell_of_piece {cs out : List Value} {c i r : Nat} {v : Value} (h : (cs.drop (i * c)).take c = out) (hv : out[r]? = some v) : cs[i * c + r]? = some v := by
  subst h
  rw [List.getElem?_take] at hv
  split at hv
  · rwa [List.getElem?_drop] at hv
  · cases hv

theorem len3 {cs : List Value} (h : cs.length = 3) : ∃ c0 c1 c2, cs = [c0, c1, c2] := by
  match cs, h with
  | [a, b, c], _ => exact ⟨a, b, c, rfl⟩
theorem span_piece {w : World} {fuel : Nat} {cs : List Value} {p : Nat × Nat × Nat} {q : List MemPlace} (h : DataW.trod (fun _ => ()) Tryz.prog w 0 (fun _ => true) false fuel 123 cs = some (spanD p, q)) : cs = spanC1 p := by
  have hc : Tryz.prog.cellsOf 123 = 3 := by kernel_rfl
  have h8 : Tryz.prog.cellsOf 5 = 1 := by kernel_rfl
  have hi : Tryz.prog.cellsOf 3 = 1 := by kernel_rfl
  obtain ⟨xs, n, _, hx, hcl, hxl, hf⟩ := DataW.trod_struct Tryz.underlying123 h
  rw [hc] at hcl
  obtain ⟨c0, c1, c2, rfl⟩ := len3 hcl
  have f0 : DataW.trod (fun _ => ()) Tryz.prog w 0 (fun _ => true) false n 5 ((List.drop 0 [c0, c1, c2]).take (Tryz.prog.cellsOf 5)) = xs[0]? := hf 0 _ rfl
  have f1 : DataW.trod (fun _ => ()) Tryz.prog w 0 (fun _ => true) false n 5 ((List.drop 1 [c0, c1, c2]).take (Tryz.prog.cellsOf 5)) = xs[1]? := hf 1 _ rfl
  have f2 : DataW.trod (fun _ => ()) Tryz.prog w 0 (fun _ => true) false n 3 ((List.drop 2 [c0, c1, c2]).take (Tryz.prog.cellsOf 3)) = xs[2]? := hf 2 _ rfl
  have hx3 : xs.length = 3 := hxl
  rw [h8] at f0 f1
  rw [hi] at f2
  have g0 : xs[0]? = some xs[0] := List.getElem?_eq_getElem (by omega)
  have g1 : xs[1]? = some xs[1] := List.getElem?_eq_getElem (by omega)
  have g2 : xs[2]? = some xs[2] := List.getElem?_eq_getElem (by omega)
  obtain ⟨a, ha, ha', _⟩ := DataW.trod_int Tryz.underlying5 (f0.trans g0)
  obtain ⟨b, hb, hb', _⟩ := DataW.trod_int Tryz.underlying5 (f1.trans g1)
  obtain ⟨c, hc2, hc', _⟩ := DataW.trod_int Tryz.underlying3 (f2.trans g2)
  have hd : xs.map (·.1) = [.lit (.int .u8 (p.1 : Int)), .lit (.int .u8 (p.2.1 : Int)), .lit (.int .i64 (p.2.2 : Int))] := by
    have := congrArg Prod.fst hx
    simpa [spanD] using this.symm
  have e0 := congrArg (·[0]?) hd
  have e1 := congrArg (·[1]?) hd
  have e2 := congrArg (·[2]?) hd
  simp [g0, ha'] at e0
  simp [g1, hb'] at e1
  simp [g2, hc'] at e2
  simp at ha hb hc2
  rw [ha, hb, hc2, e0, e1, e2]
  try rfl
theorem sym_piece {w : World} {fuel : Nat} {cs : List Value} {l : List UInt8} {q : List MemPlace} (h : DataW.trod (fun _ => ()) Tryz.prog w 0 (fun _ => true) false fuel 9 cs = some (.lit (.string l), q)) : cs = [strV l] := by
  obtain ⟨s, rfl, hx, _⟩ := DataW.trod_string Tryz.underlying9 h
  have := congrArg Prod.fst hx
  simp at this
  rw [this]

def laidL : List (String × DataW Unit) := [("math/bits.deBruijn32tab", Rows.laid_math_bits_deBruijn32tab), ("math/bits.deBruijn64tab", Rows.laid_math_bits_deBruijn64tab), ("internal/strconv.uint64pow10", Rows.laid_internal_strconv_uint64pow10), ("strconv.ErrRange", Rows.laid_strconv_ErrRange), ("strconv.ErrSyntax", Rows.laid_strconv_ErrSyntax), ("foresight/signal.keys", Rows.laid_foresight_signal_keys), ("foresight/lexer.spans", Rows.laid_foresight_lexer_spans), ("foresight/lexer.symbols", Rows.laid_foresight_lexer_symbols)]
theorem gk_of_laid {W : World} (h : laidMetH Tryz.prog laidL W) : GK W := by
  have h' : laidMet Tryz.prog laidL W := h
  obtain ⟨ps, ⟨g1, t1, cs1, fu1, p1, q1, hg1, ht1, hv1, hd1, ⟨g2, t2, cs2, fu2, p2, q2, hg2, ht2, hv2, hd2, ⟨g3, t3, cs3, fu3, p3, q3, hg3, ht3, hv3, hd3, ⟨g4, t4, cs4, fu4, p4, q4, hg4, ht4, hv4, hd4, ⟨g5, t5, cs5, fu5, p5, q5, hg5, ht5, hv5, hd5, ⟨g6, t6, cs6, fu6, p6, q6, hg6, ht6, hv6, hd6, ⟨g7, t7, cs7, fu7, p7, q7, hg7, ht7, hv7, hd7, ⟨g8, t8, cs8, fu8, p8, q8, hg8, ht8, hv8, hd8, _, _⟩, _⟩, _⟩, _⟩, _⟩, _⟩, _⟩, _⟩, _⟩ := h'
  have n2 : Tryz.prog.globalNamed "math/bits.deBruijn64tab" = some 7 := by kernel_rfl
  have n6 : Tryz.prog.globalNamed "foresight/signal.keys" = some 0 := by kernel_rfl
  have n7 : Tryz.prog.globalNamed "foresight/lexer.spans" = some 1 := by kernel_rfl
  have n8 : Tryz.prog.globalNamed "foresight/lexer.symbols" = some 2 := by kernel_rfl
  have y6 : (Tryz.prog.globals[0]?).map (·.type) = some 103 := by kernel_rfl
  have y7 : (Tryz.prog.globals[1]?).map (·.type) = some 124 := by kernel_rfl
  have y8 : (Tryz.prog.globals[2]?).map (·.type) = some 133 := by kernel_rfl
  obtain rfl := Option.some.inj (n6.symm.trans hg6)
  obtain rfl := Option.some.inj (n7.symm.trans hg7)
  obtain rfl := Option.some.inj (n8.symm.trans hg8)
  obtain rfl := Option.some.inj (y6.symm.trans ht6)
  obtain rfl := Option.some.inj (y7.symm.trans ht7)
  obtain rfl := Option.some.inj (y8.symm.trans ht8)
  refine ⟨⟨?_, ?_, ?_⟩, ?_⟩
  · obtain ⟨hl, m, hp⟩ := trod_arr (ds := spansL.map spanD) Tryz.underlying124 (by kernel_rfl : Tryz.prog.cellsOf 123 = 3) (by kernel_rfl) hd7
    intro j u hu
    have hj : j < 48 := (List.getElem?_eq_some_iff.1 hu).1
    obtain ⟨p, hsp⟩ : ∃ p, spansL[j / 3]? = some p := ⟨_, List.getElem?_eq_getElem (by show j / 3 < 16; omega)⟩
    obtain ⟨d, q, hd, ht⟩ := hp (j / 3) (by omega)
    rw [List.getElem?_map, hsp] at hd
    cases hd
    have e1 := span_piece ht
    have e2 := spanC_at spansL (j / 3) p hsp
    obtain ⟨v, hr⟩ : ∃ v, (spanC1 p)[j % 3]? = some v := ⟨_, List.getElem?_eq_getElem (by show j % 3 < 3; omega)⟩
    have c1 := cell_of_piece e1 hr
    have c2 := cell_of_piece e2 hr
    rw [show j / 3 * 3 + j % 3 = j by omega] at c1 c2
    have hu' : (spansL.flatMap spanC1)[j]? = some u := hu
    rw [c2] at hu'
    rw [Nat.zero_add, World.var?_cell n7 hv7 j]
    rw [← hu', ← c1]
    simp
  · obtain ⟨hl, m, hp⟩ := trod_arr (ds := symsL.map fun l => .lit (.string l)) Tryz.underlying133 (by kernel_rfl : Tryz.prog.cellsOf 9 = 1) (by kernel_rfl) hd8
    intro j u hu
    have hj : j < 15 := (List.getElem?_eq_some_iff.1 hu).1
    obtain ⟨p, hsp⟩ : ∃ p, symsL[j]? = some p := ⟨_, List.getElem?_eq_getElem hj⟩
    obtain ⟨d, q, hd, ht⟩ := hp j hj
    rw [List.getElem?_map, hsp] at hd
    cases hd
    have c1 := cell_of_piece (r := 0) (sym_piece ht) rfl
    have hu' : (symsL.map strV)[j]? = some u := hu
    rw [List.getElem?_map, hsp] at hu'
    cases hu'
    rw [Nat.zero_add, World.var?_cell n8 hv8 j]
    simpa using c1
  · have hv := hv2
    simp only [World.var?, n2, Option.bind_some] at hv
    split at hv
    · rename_i e
      have := (Array.getElem?_eq_some_iff.1 e).1
      omega
    · cases hv
  · obtain ⟨hl, m, hp⟩ := trod_arr (ds := keysL.map fun l => .lit (.string l)) Tryz.underlying103 (by kernel_rfl : Tryz.prog.cellsOf 9 = 1) (by kernel_rfl) hd6
    intro j u hu
    have hj : j < 10 := (List.getElem?_eq_some_iff.1 hu).1
    obtain ⟨p, hsp⟩ : ∃ p, keysL[j]? = some p := ⟨_, List.getElem?_eq_getElem hj⟩
    obtain ⟨d, q, hd, ht⟩ := hp j hj
    rw [List.getElem?_map, hsp] at hd
    cases hd
    have c1 := cell_of_piece (r := 0) (sym_piece ht) rfl
    have hu' : (keysL.map strV)[j]? = some u := hu
    rw [List.getElem?_map, hsp] at hu'
    cases hu'
    rw [Nat.zero_add, World.var?_cell n6 hv6 j]
    simpa using c1

set_option maxRecDepth 100000 in
/-- a law's step: what is left is its walk, from a world where the listed variables hold what is listed -/
theorem law_liftedL {os : Os} (started : os.Started) {k : FuncId} {fn : Func} {s : ChangeSpec} {conds : List PathCond} {fresh : Bool} {H : Type} {enc : TypeId × Value → H} (F : Stop.Interp) (noInit : Tryz.prog.inits.idxOf? k = none) (hfn : Tryz.prog.funcs[k]? = some fn)
    (witness : ∃ (w : World) (tape : Tape) (i : Input), w.os = os ∧ (w.forCall tape i).Shaped Tryz.prog ∧ i.vars = [] ∧ Input.okWide Tryz.prog (w.forCall tape i) .any w.heap.size k i ∧
      (OpenSpec.ofChange s).preRow enc Tryz.prog fn conds false laidL (w.forCall tape i).memory i.args ∧ ({} : Assume).holds Tryz.prog (lone (Frame.enter Tryz.prog k i.args .normal) [] (w.forCall tape i)))
    (hs : s.vars = []) (hts : (fn.params.toList.all fun t => decide (t < Tryz.prog.types.size)) = true) (hrt : fn.resultTypes = #[4])
    (hspec : ∀ ds : List (DataW H), ds.length = fn.params.toList.length → s.fn H ds = { results := [.lit (.bool true)], args := ds })
    (law : ∀ (W : World) (base : Nat) (args : List Value) (ds : List (DataW H)) (p : List MemPlace), (∀ (j : Nat) t v, fn.params.toList[j]? = some t → args[j]? = some v → Value.okWide Tryz.prog W .any base t v) →
      DataW.TrodAll enc Tryz.prog W 0 (fun _ => true) true fn.params.toList args ds p → GK W → Fn Tryz.prog k args W fun v w' => v = .bool true ∧ Ext W w') :
    ReturnsInHanded {} Tryz.checked os k .any ((OpenSpec.ofChange s).preRow enc Tryz.prog fn conds false laidL) (((OpenSpec.ofChange s).at F).post enc Tryz.prog fn false fresh false false) := by
  refine returnsInHanded_of_row (C := Tryz.checked) (s := OpenSpec.ofChange s) own started noInit hfn witness ?_
  intro W base args ds gs before hval hW _ _ _ hL _ _
  have hW' : DataW.Whole enc Tryz.prog fn.params.toList s.vars false W args.toList ds gs before := hW
  obtain ⟨p, q, hA, hV, rfl, hf, hn⟩ := hW
  have hg : gs = [] := by
    have hV' : DataW.TrodVars enc Tryz.prog W (fun _ => true) s.vars gs q := hV
    rw [hs] at hV'
    cases gs with
    | nil => rfl
    | cons _ _ => exact hV'.elim
  subst hg
  have hlen : ∀ {ts : List TypeId} {vs : List Value} {ds : List (DataW H)} {ps : List MemPlace}, DataW.TrodAll enc Tryz.prog W 0 (fun _ => true) true ts vs ds ps → ds.length = ts.length := by
    intro ts
    induction ts with
    | nil => intro vs ds ps h; obtain ⟨rfl, rfl, rfl⟩ := trodAll_nil h; rfl
    | cons t ts ih => intro vs ds ps h; obtain ⟨v, vs1, d, ds1, a, b, rfl, rfl, rfl, h1, h2⟩ := trodAll_cons h; simp [ih h2]
  refine Calls.mono (law W base args.toList ds p (fun j t v h1 h2 => hval j t v (Array.getElem?_toList.symm.trans h1) (Array.getElem?_toList.symm.trans h2)) hA (gk_of_laid hL)) fun e W' he => ?_
  cases e with
  | returned v =>
    refine ⟨v, rfl, post_of_ext kids full (fun t ht => of_decide_eq_true (List.all_eq_true.1 hts t ht)) hs hW' ?_ hrt Tryz.underlying4 he.1 he.2⟩
    rw [List.append_nil]; exact hspec ds (hlen hA)
  | panicked ch => exact he.elim
  | outgrown => exact he.elim

def layC (cs : List Value) : Obj → Obj
  | .cells _ t frozen => .cells cs.toArray t frozen
  | o => o
def tabC : DataW Unit → List Value
  | .agg l => l.map fun d => match d with | .lit (.int k z) => .int k z | _ => .bool false
  | _ => []
/-- a world for the witness -/
noncomputable def laidWorld (os : Os) : World :=
  let w := World.holding Tryz.prog os ⟨#[.cells #[strV [118, 97, 108, 117, 101, 32, 111, 117, 116, 32, 111, 102, 32, 114, 97, 110, 103, 101]] 162, .cells #[strV [105, 110, 118, 97, 108, 105, 100, 32, 115, 121, 110, 116, 97, 120]] 162], #[], []⟩
  { w with heap := ((((((((w.heap.modify 1 (layC spanC)).modify 2 (layC symC)).modify 0 (layC keyC)).modify 4 (layC [.iface 160 (.pointer (some ⟨13, 0, none⟩))])).modify 3 (layC [.iface 160 (.pointer (some ⟨14, 0, none⟩))])).modify 5 (layC (tabC Rows.laid_internal_strconv_uint64pow10))).modify 6 (layC (tabC Rows.laid_math_bits_deBruijn32tab))).modify 7 (layC (tabC Rows.laid_math_bits_deBruijn64tab))) }
theorem laidLow (os : Os) : (World.settled Tryz.prog os).heap.size = 13 := by kernel_rfl
end Go.Proofs.YtmnhnbpnjepkbaaGreatDoor

namespace Go.Proofs.YtmnhnbpnjepkbaaGreatDoor
open Go.ChangeShapes Go.WideShapes Go.ChangeAt Go.RowKit

section
variable {H : Type} {enc : TypeId × Value → H} {P : Program} {W : World} {sp : Nat → Bool} {hd : Bool}

theorem open_strL {t e : TypeId} {fuel : Nat} {cs : List Value} {x : DataW H × List MemPlace} (ht : P.underlying t = some (.slice e)) (he : P.underlying e = some .string) (hc : P.cellsOf e = 1)
    (h : DataW.trod enc P W 0 sp hd fuel t cs = some x) : ∃ (v : Value) (l : List (List UInt8)), cs = [v] ∧ Sl anyB W v l.length (l.map strV) := by
  rcases Deep.open_strs ht he hc h with ⟨rfl, _⟩ | ⟨a, len, cap, m, Sx, rfl, _, hl, hm, hmm, _, hx⟩
  · exact ⟨_, [], rfl, none, 0, rfl, Nat.le_refl _, by omega, fun _ => rfl, .inl rfl⟩
  · have hml : len ≤ m := by rw [hmm]; split <;> omega
    refine ⟨_, (List.range len).map fun i => (Sx i).data.toList, rfl, some a, cap, by simp, by simp; omega, by simp only [maxLen] at hm; omega, (fun h => by cases h), ?_⟩
    by_cases h0 : len = 0
    · left; simp [h0]
    · right
      have hsub : a.spot = none := by
        exact spot_none (a := a.add 0) (hx 0 (by omega)).1
      obtain ⟨b, off, s⟩ := a
      simp only at hsub
      subst hsub
      refine ⟨b, off, rfl, trivial, fun i u hu => ?_⟩
      obtain ⟨hi, rfl⟩ := List.getElem?_eq_some_iff.1 hu
      simp at hi
      have := (hx i (by omega)).1
      rw [Addr.add_lit] at this
      rw [this]; simp [strV]
end
end Go.Proofs.YtmnhnbpnjepkbaaGreatDoor

namespace Go.Proofs.YtmnhnbpnjepkbaaGreatDoor
open Go.ChangeShapes Go.WideShapes Go.ChangeAt Go.RowKit
open Go.ChangeMaps (open_string)
set_option linter.unusedVariables false

set_option maxRecDepth 100000 in
theorem ParserChains_open {H : Type} {enc : TypeId × Value → H} (W : World) (base : Nat) (args : List Value) (ds : List (DataW H)) (p : List MemPlace) (hval : ∀ (j : Nat) t v, Tryz.f6.params.toList[j]? = some t → args[j]? = some v → Value.okWide Tryz.prog W .any base t v)
    (hA : DataW.TrodAll enc Tryz.prog W 0 (fun _ => true) true Tryz.f6.params.toList args ds p) (hG : GK W) : Fn Tryz.prog 6 args W fun v w' => v = .bool true ∧ Ext W w' := by
  rw [Tryz.params6] at hA hval
  obtain ⟨v1, _, d1, _, p1, q1, rfl, rfl, rfl, ⟨n1, h1⟩, r1⟩ := trodAll_cons hA
  obtain ⟨rfl, rfl, rfl⟩ := trodAll_nil r1
  obtain ⟨u1, l1, e1, b1⟩ := open_strL Tryz.underlying54 Tryz.underlying9 (by kernel_rfl) h1
  obtain rfl := val_one Tryz.underlying54 (hval 0 _ v1 rfl rfl) e1
  exact chains_ok W v1 l1 b1 hG

theorem ParserChains_laidMet (os : Os) : laidMet Tryz.prog laidL ((laidWorld os).forCall (fun _ _ => 0) ⟨#[], #[.slice none 0 0], []⟩).memory := laidMet_of_run' 8 (by kernel_rfl) (by kernel_rfl)
theorem ParserChains_reads (os : Os) {H : Type} (enc : TypeId × Value → H) : ∃ places, DataW.whole enc Tryz.prog ((laidWorld os).forCall (fun _ _ => 0) ⟨#[], #[.slice none 0 0], []⟩).memory Tryz.f6.params.toList Rows.parserChainsSpec.vars false #[.slice none 0 0].toList 8 = some ([.nil], [], places) := ⟨[], by kernel_rfl⟩
set_option maxRecDepth 100000 in
theorem ParserChains_lifted (os : Os) (started : os.Started) (H : Type) (enc : TypeId × Value → H) (F : Stop.Interp) :
    ReturnsInHanded {} Tryz.checked os 6 .any ((OpenSpec.ofChange Rows.parserChainsSpec).preRow enc Tryz.prog Tryz.f6 Rows.parserChainsRow.domain false Rows.parserChainsRow.laid) (((OpenSpec.ofChange Rows.parserChainsSpec).at F).post enc Tryz.prog Tryz.f6 false true false false) := by
  obtain ⟨places, hx⟩ := ParserChains_reads os enc
  exact law_liftedL started F (by kernel_rfl) Tryz.func6
    (witness_row_atRef (enc := enc) (C := Tryz.checked) false (laidWorld os) #[.slice none 0 0] rfl (by kernel_rfl) (by kernel_rfl) (by kernel_rfl)
      (OpenSpec.preRow_of_cond 8 hx (by kernel_rfl) (fun k hk => by cases hk) (by kernel_rfl) (ParserChains_laidMet os))) rfl (by kernel_rfl) (by kernel_rfl)
    (fun ds h => by
      match ds, h with
      | [d1], _ => rfl) ParserChains_open
theorem ParserChains_said : Rows.ParserChainsSaid :=
  OpenClaim.holds_of_cond 6 Tryz.f6 rfl rfl rfl rfl rfl rfl rfl ⟨rfl, rfl, rfl, rfl, rfl⟩ rfl rfl rfl rfl rfl (by kernel_rfl) Tryz.func6 (by kernel_rfl)
    (of_decide_eq_true (by kernel_rfl)) (by unfold Func.isWrapper; first | (rw [if_pos (by decide +kernel)]; kernel_rfl) | (rw [if_neg (by decide +kernel)]; exact ⟨rfl, rfl⟩))
    (fun os started H enc _ F => by rw [OpenClaim.pre_eq_preRow]; exact ParserChains_lifted os started H enc F)
theorem ParserChains_plain (f : FuncId) (fn : Func) (hf : Tryz.pinned.checked.prog.funcNamed "foresight/foresightlaw05.ParserChains" = some f) (hfn : Tryz.pinned.checked.prog.funcs[f]? = some fn) :
    true = Tryz.pinned.checked.prog.looks [] ∧ ∀ (j : Nat) t, fn.params[j]? = some t → Tryz.pinned.checked.prog.wantsStandIn t = false := by
  obtain rfl : f = 6 := Option.some.inj ((show Tryz.prog.funcNamed "foresight/foresightlaw05.ParserChains" = some 6 by kernel_rfl).symm.trans hf) |>.symm
  obtain rfl : fn = Tryz.f6 := (Option.some.inj (Tryz.func6.symm.trans hfn)).symm
  refine ⟨by kernel_rfl, fun j t ht => ?_⟩
  have hall : (Tryz.f6.params.toList.all fun t => !Tryz.prog.wantsStandIn t) = true := by kernel_rfl
  have := List.all_eq_true.1 hall t (by simpa using Array.mem_of_getElem? ht)
  exact Bool.not_eq_true' _ |>.mp this
theorem ParserChains_proved : Rows.ParserChainsCardSaid :=
  Claim7.holds_tied_plain_at .later [] _ _ _ _ ParserChains_said (fun _ h => by cases h) (by kernel_rfl) (fun _ h => by cases h) parserChains_row_tie rfl ⟨rfl, rfl⟩ (by kernel_rfl) rfl ParserChains_plain (by kernel_rfl)
end Go.Proofs.YtmnhnbpnjepkbaaGreatDoor
