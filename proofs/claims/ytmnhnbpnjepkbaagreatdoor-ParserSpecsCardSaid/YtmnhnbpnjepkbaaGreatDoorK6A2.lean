/- The walk through ParserSpecs. A law's close: what the walk gives, as the row wants it; the common part. A law's close where the row lists the parser's variables: what the list gives, the witness, the law's step. ParserSpecs: for every input the law returns true and each argument reads as it did. Conditions: none. -/
import Derived.Test.YtmnhnbpnjepkbaaGreatDoorK6A1
import Derived.WalkKit
import Derived.ProofKit
import Derived.OpenShut
import Derived.JoinedCond
import Derived.ChangeStays
import Derived.ReadAgain
import Derived.Deep.Slices
import Derived.Test.YtmnhnbpnjepkbaaGreatDoorCards
import Derived.Test.YtmnhnbpnjepkbaaGreatDoorTie
import Derived.Deep.DeepWitnessRowRef
import Derived.Lib.LaidTab

namespace Go.Proofs.YtmnhnbpnjepkbaaGreatDoor
open Go.RowKit
set_option linter.unusedVariables false

/-- the guarantee -/
def wantR (nm : List UInt8) (f : Fml) : Rqm := ⟨[112], nm, 2, f⟩
theorem wantR_fits {w : World} {nm : List UInt8} {f : Fml} {f0 f1 f2 f3 f4 : Value} (h : FV w (.agg [f0, f1, f2, f3, f4].toArray) f) : reqR.fits anyB w [strV [112], strV nm, .int .i64 2, f0, f1, f2, f3, f4] (wantR nm f) := ⟨[f0, f1, f2, f3, f4], rfl, rfl, h⟩
theorem two_apps {v18 : Value} {l : List Rqm} {r : Rqm} {L : List (List Value)} {c : List Value} {w : World} {B : Nat} (h : w.ownsRow B 41 8 v18 (l.length + 1) (L.flatten ++ c)) (hL : RsAt reqR anyB w L l) (hc : reqR.fits anyB w c r) : SlAt reqR anyB w v18 (l ++ [r]) := by
  have hS := Sl_of_own (ok := anyB) h (fun _ _ => trivial)
  obtain ⟨a, cc, e, h1, h2, h3, h4⟩ := hS
  refine ⟨a, cc, L ++ [c], by rw [e]; simp, ⟨a, cc, by rw [e]; simp, by simpa using h1, h2, h3, ?_⟩, hL.snoc hc⟩
  simpa using h4
theorem spec_cnt {A : List Tok} {s : Spc} (h : RunN .spec A (.ok (s, []))) : s.reqs.length ≤ A.length := by
  obtain ⟨x, m, h1, h2⟩ := call_ok h
  obtain ⟨ps, m2, h3, h4⟩ := call_ok h2
  cases h4.det (Run.ret _ _)
  have e1 := parts_cnt _ _ _ _ (Nat.le_refl _) h3
  have e2 := RunN.le h1
  show ps.flatten.length ≤ _
  omega
set_option maxHeartbeats 6400000 in
set_option maxRecDepth 20000 in
theorem specs_ok (w : World) (t a nm : List UInt8) (hG : GK w) : Fn Tryz.prog 7 [strV t, strV a, strV nm] w fun v w' => v = .bool true ∧ Ext w w' := by
  refine fn_of_wc Tryz.func7 rfl Tryz.ntmps7 (Nat.le_of_ble_eq_true rfl) (by kernel_rfl) ?_
  repeat' first | refine nx ?_ | refine C_cond_t rfl ?_ | refine C_cond_f rfl ?_ | refine Q_block_on rfl ?_
  (refine C_region ?_
   <;> (refine M_assign ?_; (first | refine M_bool rfl ?_ | refine W_move ?_))
   <;> refine W_nil ?_)
  repeat' first | refine nx ?_ | refine C_cond_t rfl ?_ | refine C_cond_f rfl ?_ | refine Q_block_on rfl ?_
  (refine C_region ?_)
  -- at operation 0: <dst=(some 36) op=(call <callee=(value (func 9)) args=[] argTypes=[]>) type=4 guard=none>
  refine W_call (head_ok w hG) rfl ?_
  rintro v w0 ⟨rfl, k0⟩
  ((refine M_assign ?_; (first | refine M_bool rfl ?_ | refine W_move ?_))
   <;> refine W_nil ?_)
  repeat' first | refine nx ?_ | refine C_cond_t rfl ?_ | refine C_cond_f rfl ?_ | refine Q_block_on rfl ?_
  (refine C_region ?_
   <;> (first | refine M_str rfl ?_ | refine W_move ?_))
  -- at operation 1: <dst=(some 39) op=(call <callee=(value (func 23)) args=[(tmp 38)] argTypes=[9]>) type=65 guard=none>
  refine W_call (spec_form w0 t (hG.ext k0)) rfl ?_
  rintro _ w1 ⟨k1, oS, c0, c1, pS, rfl, fs0, fs1, nS⟩
  ((first | refine M_tuple rfl ?_ | refine W_move ?_)
   <;> refine W_extract rfl rfl ?_
   <;> refine W_extract rfl rfl ?_
   <;> refine W_extract rfl rfl ?_)
  -- at operation 6: <dst=(some 8) op=(alloc 36) type=0 guard=none>
  refine W_newAgg (cs := [c0, c1]) rfl rfl (by rfl) nS (fun w2 n2 => ?_)
  ((refine M_assign ?_; (first | refine M_int rfl ?_ | refine W_move ?_))
   <;> (refine M_assign ?_; (first | refine M_int rfl ?_ | refine W_move ?_))
   <;> refine W_nil ?_)
  repeat' first | refine nx ?_ | refine C_cond_t rfl ?_ | refine C_cond_f rfl ?_ | refine Q_block_on rfl ?_
  have bS := n2.blk
  have k2 := (k0.trans k1).trans n2.keep
  (refine C_region ?_
   <;> (first | refine M_str rfl ?_ | refine W_move ?_))
  -- at operation 1: <dst=(some 45) op=(call <callee=(value (func 16)) args=[(tmp 44)] argTypes=[9]>) type=52 guard=none>
  refine W_call (formula_gen w2 a (hG.ext k2)) rfl ?_
  rintro _ w3 ⟨k3, oF, f0, f1, f2, f3, f4, pF, rfl, fF, nF⟩
  ((first | refine M_tuple rfl ?_ | refine W_move ?_)
   <;> refine W_extract rfl rfl ?_
   <;> refine W_extract rfl rfl ?_
   <;> refine W_extract rfl rfl ?_)
  -- at operation 6: <dst=(some 11) op=(alloc 39) type=0 guard=none>
  refine W_newAgg (cs := [f0, f1, f2, f3, f4]) rfl rfl (by rfl) nF (fun w4 n4 => ?_)
  ((refine M_assign ?_; (first | refine M_int rfl ?_ | refine W_move ?_))
   <;> (refine M_assign ?_; (first | refine M_int rfl ?_ | refine W_move ?_))
   <;> refine W_nil ?_)
  repeat' first | refine nx ?_ | refine C_cond_t rfl ?_ | refine C_cond_f rfl ?_ | refine Q_block_on rfl ?_
  have bF := n4.blk
  (refine C_region ?_
   <;> (first | refine M_str rfl ?_ | refine W_move ?_))
  -- at operation 1: <dst=(some 51) op=(call <callee=(value (func 10)) args=[(tmp 50)] argTypes=[9]>) type=26 guard=none>
  refine W_call (reflex_ok w4 t) rfl ?_
  rintro _ w5 ⟨aa, ac, ea, qa, A, rfl, k5, hTA, hA⟩
  ((first | refine M_tuple rfl ?_ | refine W_move ?_)
   <;> refine W_extract rfl rfl ?_
   <;> refine W_extract rfl rfl ?_
   <;> refine W_extract rfl rfl ?_
   <;> (refine M_assign ?_; (first | refine M_slice rfl ?_ | refine W_move ?_))
   <;> (refine M_assign ?_; (first | refine M_int rfl ?_ | refine W_move ?_))
   <;> (refine M_assign ?_; (first | refine M_int rfl ?_ | refine W_move ?_))
   <;> refine W_nil ?_)
  repeat' first | refine nx ?_ | refine C_cond_t rfl ?_ | refine C_cond_f rfl ?_ | refine Q_block_on rfl ?_
  (refine C_region ?_
   <;> (first | refine M_str rfl ?_ | refine W_move ?_))
  -- at operation 1: <dst=(some 57) op=(call <callee=(value (func 10)) args=[(tmp 56)] argTypes=[9]>) type=26 guard=none>
  refine W_call (reflex_ok w5 a) rfl ?_
  rintro _ w6 ⟨ba, bc, eb, qb, B, rfl, k6, hTB, hB⟩
  ((first | refine M_tuple rfl ?_ | refine W_move ?_)
   <;> refine W_extract rfl rfl ?_
   <;> refine W_extract rfl rfl ?_
   <;> refine W_extract rfl rfl ?_
   <;> (refine M_assign ?_; (first | refine M_slice rfl ?_ | refine W_move ?_))
   <;> (refine M_assign ?_; (first | refine M_int rfl ?_ | refine W_move ?_))
   <;> (refine M_assign ?_; (first | refine M_int rfl ?_ | refine W_move ?_))
   <;> refine W_nil ?_)
  repeat' first | refine nx ?_ | refine C_cond_t rfl ?_ | refine C_cond_f rfl ?_ | refine Q_block_on rfl ?_
  have k46 := k5.trans k6
  have k26 := (k3.trans n4.keep).trans k46
  have k06 := k2.trans k26
  by_cases hS : oS.errno = 0
  case neg =>
    (refine C_region ?_
     <;> (first | refine M_int rfl ?_ | refine W_move ?_)
     <;> (refine W_neq rfl rfl (fun hc => ?_) (fun hc => ?_) <;> try (exfalso; omega))
     <;> (first | refine M_bool rfl ?_ | refine W_move ?_)
     <;> (first | refine W_no rfl ?_ | (refine W_yes rfl ?_; (first | refine M_int rfl ?_ | refine W_move ?_)))
     <;> (first | refine W_no rfl ?_ | (refine W_yes rfl ?_; (refine W_neq rfl rfl (fun hc => ?_) (fun hc => ?_) <;> try (exfalso; omega))))
     <;> ((first | refine M_pick_t rfl ?_ | refine M_pick_f rfl ?_); (first | refine M_bool rfl ?_ | refine W_move ?_))
     <;> (first | refine M_bool rfl ?_ | refine W_move ?_)
     <;> (first | refine W_no rfl ?_ | (refine W_yes rfl ?_; (first | refine M_str rfl ?_ | refine W_move ?_)))
     <;> (first | refine W_no rfl ?_ | (refine W_yes rfl ?_; refine W_slen rfl ?_))
     <;> (first | refine W_no rfl ?_ | (refine W_yes rfl ?_; (refine W_gtr rfl rfl (fun hc => ?_) (fun hc => ?_) <;> try (exfalso; omega))))
     <;> ((first | refine M_pick_t rfl ?_ | refine M_pick_f rfl ?_); (first | refine M_bool rfl ?_ | refine W_move ?_))
     <;> (first | refine M_bool rfl ?_ | refine W_move ?_)
     <;> (first | refine W_no rfl ?_ | (refine W_yes rfl ?_; (first | refine M_str rfl ?_ | refine W_move ?_)))
     <;> (first | refine W_no rfl ?_ | (refine W_yes rfl ?_; refine W_slen rfl ?_))
     <;> (first | refine W_no rfl ?_ | (refine W_yes rfl ?_; (refine W_gtr rfl rfl (fun hc => ?_) (fun hc => ?_) <;> try (exfalso; omega))))
     <;> ((first | refine M_pick_t rfl ?_ | refine M_pick_f rfl ?_); (first | refine M_bool rfl ?_ | refine W_move ?_))
     <;> (first | refine M_bool rfl ?_ | refine W_move ?_)
     <;> (first | refine W_no rfl ?_ | (refine W_yes rfl ?_; (first | refine M_slice rfl ?_ | refine W_move ?_)))
     <;> (first | refine W_no rfl ?_ | (refine W_yes rfl ?_; refine W_len rfl ?_))
     <;> (first | refine W_no rfl ?_ | (refine W_yes rfl ?_; (refine W_gtr rfl rfl (fun hc => ?_) (fun hc => ?_) <;> try (exfalso; omega))))
     <;> ((first | refine M_pick_t rfl ?_ | refine M_pick_f rfl ?_); (first | refine M_bool rfl ?_ | refine W_move ?_))
     <;> (first | refine M_bool rfl ?_ | refine W_move ?_)
     <;> (first | refine W_no rfl ?_ | (refine W_yes rfl ?_; (first | refine M_slice rfl ?_ | refine W_move ?_)))
     <;> (first | refine W_no rfl ?_ | (refine W_yes rfl ?_; refine W_len rfl ?_))
     <;> (first | refine W_no rfl ?_ | (refine W_yes rfl ?_; (refine W_gtr rfl rfl (fun hc => ?_) (fun hc => ?_) <;> try (exfalso; omega))))
     <;> ((first | refine M_pick_t rfl ?_ | refine M_pick_f rfl ?_); (first | refine M_bool rfl ?_ | refine W_move ?_))
     <;> (first | refine M_bool rfl ?_ | refine W_move ?_)
     <;> (first | refine W_no rfl ?_ | (refine W_yes rfl ?_; (first | refine M_str rfl ?_ | refine W_move ?_)))
     <;> refine W_no rfl ?_
     <;> (first | refine W_no rfl ?_ | (refine W_yes rfl ?_; refine W_not rfl ?_))
     <;> ((first | refine M_pick_t rfl ?_ | refine M_pick_f rfl ?_); (first | refine M_bool rfl ?_ | refine W_move ?_))
     <;> refine W_nil ?_)
    repeat' first | refine nx ?_ | refine C_cond_t rfl ?_ | refine C_cond_f rfl ?_ | refine Q_block_on rfl ?_
    (refine C_region ?_
     <;> (first | refine M_bool rfl ?_ | refine W_move ?_)
     <;> (refine M_assign ?_; (first | refine M_bool rfl ?_ | refine W_move ?_))
     <;> refine W_nil ?_)
    repeat' first | refine nx ?_ | refine C_cond_t rfl ?_ | refine C_cond_f rfl ?_ | refine Q_block_on rfl ?_
    exact fin_ret1 rfl ⟨rfl, k06⟩
  by_cases hF : oF.errno = 0
  case neg =>
    (refine C_region ?_
     <;> (first | refine M_int rfl ?_ | refine W_move ?_)
     <;> (refine W_neq rfl rfl (fun hc => ?_) (fun hc => ?_) <;> try (exfalso; omega))
     <;> (first | refine M_bool rfl ?_ | refine W_move ?_)
     <;> (first | refine W_no rfl ?_ | (refine W_yes rfl ?_; (first | refine M_int rfl ?_ | refine W_move ?_)))
     <;> (first | refine W_no rfl ?_ | (refine W_yes rfl ?_; (refine W_neq rfl rfl (fun hc => ?_) (fun hc => ?_) <;> try (exfalso; omega))))
     <;> ((first | refine M_pick_t rfl ?_ | refine M_pick_f rfl ?_); (first | refine M_bool rfl ?_ | refine W_move ?_))
     <;> (first | refine M_bool rfl ?_ | refine W_move ?_)
     <;> (first | refine W_no rfl ?_ | (refine W_yes rfl ?_; (first | refine M_str rfl ?_ | refine W_move ?_)))
     <;> (first | refine W_no rfl ?_ | (refine W_yes rfl ?_; refine W_slen rfl ?_))
     <;> (first | refine W_no rfl ?_ | (refine W_yes rfl ?_; (refine W_gtr rfl rfl (fun hc => ?_) (fun hc => ?_) <;> try (exfalso; omega))))
     <;> ((first | refine M_pick_t rfl ?_ | refine M_pick_f rfl ?_); (first | refine M_bool rfl ?_ | refine W_move ?_))
     <;> (first | refine M_bool rfl ?_ | refine W_move ?_)
     <;> (first | refine W_no rfl ?_ | (refine W_yes rfl ?_; (first | refine M_str rfl ?_ | refine W_move ?_)))
     <;> (first | refine W_no rfl ?_ | (refine W_yes rfl ?_; refine W_slen rfl ?_))
     <;> (first | refine W_no rfl ?_ | (refine W_yes rfl ?_; (refine W_gtr rfl rfl (fun hc => ?_) (fun hc => ?_) <;> try (exfalso; omega))))
     <;> ((first | refine M_pick_t rfl ?_ | refine M_pick_f rfl ?_); (first | refine M_bool rfl ?_ | refine W_move ?_))
     <;> (first | refine M_bool rfl ?_ | refine W_move ?_)
     <;> (first | refine W_no rfl ?_ | (refine W_yes rfl ?_; (first | refine M_slice rfl ?_ | refine W_move ?_)))
     <;> (first | refine W_no rfl ?_ | (refine W_yes rfl ?_; refine W_len rfl ?_))
     <;> (first | refine W_no rfl ?_ | (refine W_yes rfl ?_; (refine W_gtr rfl rfl (fun hc => ?_) (fun hc => ?_) <;> try (exfalso; omega))))
     <;> ((first | refine M_pick_t rfl ?_ | refine M_pick_f rfl ?_); (first | refine M_bool rfl ?_ | refine W_move ?_))
     <;> (first | refine M_bool rfl ?_ | refine W_move ?_)
     <;> (first | refine W_no rfl ?_ | (refine W_yes rfl ?_; (first | refine M_slice rfl ?_ | refine W_move ?_)))
     <;> (first | refine W_no rfl ?_ | (refine W_yes rfl ?_; refine W_len rfl ?_))
     <;> (first | refine W_no rfl ?_ | (refine W_yes rfl ?_; (refine W_gtr rfl rfl (fun hc => ?_) (fun hc => ?_) <;> try (exfalso; omega))))
     <;> ((first | refine M_pick_t rfl ?_ | refine M_pick_f rfl ?_); (first | refine M_bool rfl ?_ | refine W_move ?_))
     <;> (first | refine M_bool rfl ?_ | refine W_move ?_)
     <;> (first | refine W_no rfl ?_ | (refine W_yes rfl ?_; (first | refine M_str rfl ?_ | refine W_move ?_)))
     <;> refine W_no rfl ?_
     <;> (first | refine W_no rfl ?_ | (refine W_yes rfl ?_; refine W_not rfl ?_))
     <;> ((first | refine M_pick_t rfl ?_ | refine M_pick_f rfl ?_); (first | refine M_bool rfl ?_ | refine W_move ?_))
     <;> refine W_nil ?_)
    repeat' first | refine nx ?_ | refine C_cond_t rfl ?_ | refine C_cond_f rfl ?_ | refine Q_block_on rfl ?_
    (refine C_region ?_
     <;> (first | refine M_bool rfl ?_ | refine W_move ?_)
     <;> (refine M_assign ?_; (first | refine M_bool rfl ?_ | refine W_move ?_))
     <;> refine W_nil ?_)
    repeat' first | refine nx ?_ | refine C_cond_t rfl ?_ | refine C_cond_f rfl ?_ | refine Q_block_on rfl ?_
    exact fin_ret1 rfl ⟨rfl, k06⟩
  by_cases lt : 2900 < t.length
  · (refine C_region ?_
     <;> (first | refine M_int rfl ?_ | refine W_move ?_)
     <;> (refine W_neq rfl rfl (fun hc => ?_) (fun hc => ?_) <;> try (exfalso; omega))
     <;> (first | refine M_bool rfl ?_ | refine W_move ?_)
     <;> (first | refine W_no rfl ?_ | (refine W_yes rfl ?_; (first | refine M_int rfl ?_ | refine W_move ?_)))
     <;> (first | refine W_no rfl ?_ | (refine W_yes rfl ?_; (refine W_neq rfl rfl (fun hc => ?_) (fun hc => ?_) <;> try (exfalso; omega))))
     <;> ((first | refine M_pick_t rfl ?_ | refine M_pick_f rfl ?_); (first | refine M_bool rfl ?_ | refine W_move ?_))
     <;> (first | refine M_bool rfl ?_ | refine W_move ?_)
     <;> (first | refine W_no rfl ?_ | (refine W_yes rfl ?_; (first | refine M_str rfl ?_ | refine W_move ?_)))
     <;> (first | refine W_no rfl ?_ | (refine W_yes rfl ?_; refine W_slen rfl ?_))
     <;> (first | refine W_no rfl ?_ | (refine W_yes rfl ?_; (refine W_gtr rfl rfl (fun hc => ?_) (fun hc => ?_) <;> try (exfalso; omega))))
     <;> ((first | refine M_pick_t rfl ?_ | refine M_pick_f rfl ?_); (first | refine M_bool rfl ?_ | refine W_move ?_))
     <;> (first | refine M_bool rfl ?_ | refine W_move ?_)
     <;> (first | refine W_no rfl ?_ | (refine W_yes rfl ?_; (first | refine M_str rfl ?_ | refine W_move ?_)))
     <;> (first | refine W_no rfl ?_ | (refine W_yes rfl ?_; refine W_slen rfl ?_))
     <;> (first | refine W_no rfl ?_ | (refine W_yes rfl ?_; (refine W_gtr rfl rfl (fun hc => ?_) (fun hc => ?_) <;> try (exfalso; omega))))
     <;> ((first | refine M_pick_t rfl ?_ | refine M_pick_f rfl ?_); (first | refine M_bool rfl ?_ | refine W_move ?_))
     <;> (first | refine M_bool rfl ?_ | refine W_move ?_)
     <;> (first | refine W_no rfl ?_ | (refine W_yes rfl ?_; (first | refine M_slice rfl ?_ | refine W_move ?_)))
     <;> (first | refine W_no rfl ?_ | (refine W_yes rfl ?_; refine W_len rfl ?_))
     <;> (first | refine W_no rfl ?_ | (refine W_yes rfl ?_; (refine W_gtr rfl rfl (fun hc => ?_) (fun hc => ?_) <;> try (exfalso; omega))))
     <;> ((first | refine M_pick_t rfl ?_ | refine M_pick_f rfl ?_); (first | refine M_bool rfl ?_ | refine W_move ?_))
     <;> (first | refine M_bool rfl ?_ | refine W_move ?_)
     <;> (first | refine W_no rfl ?_ | (refine W_yes rfl ?_; (first | refine M_slice rfl ?_ | refine W_move ?_)))
     <;> (first | refine W_no rfl ?_ | (refine W_yes rfl ?_; refine W_len rfl ?_))
     <;> (first | refine W_no rfl ?_ | (refine W_yes rfl ?_; (refine W_gtr rfl rfl (fun hc => ?_) (fun hc => ?_) <;> try (exfalso; omega))))
     <;> ((first | refine M_pick_t rfl ?_ | refine M_pick_f rfl ?_); (first | refine M_bool rfl ?_ | refine W_move ?_))
     <;> (first | refine M_bool rfl ?_ | refine W_move ?_)
     <;> (first | refine W_no rfl ?_ | (refine W_yes rfl ?_; (first | refine M_str rfl ?_ | refine W_move ?_)))
     <;> refine W_no rfl ?_
     <;> (first | refine W_no rfl ?_ | (refine W_yes rfl ?_; refine W_not rfl ?_))
     <;> ((first | refine M_pick_t rfl ?_ | refine M_pick_f rfl ?_); (first | refine M_bool rfl ?_ | refine W_move ?_))
     <;> refine W_nil ?_)
    repeat' first | refine nx ?_ | refine C_cond_t rfl ?_ | refine C_cond_f rfl ?_ | refine Q_block_on rfl ?_
    (refine C_region ?_
     <;> (first | refine M_bool rfl ?_ | refine W_move ?_)
     <;> (refine M_assign ?_; (first | refine M_bool rfl ?_ | refine W_move ?_))
     <;> refine W_nil ?_)
    repeat' first | refine nx ?_ | refine C_cond_t rfl ?_ | refine C_cond_f rfl ?_ | refine Q_block_on rfl ?_
    exact fin_ret1 rfl ⟨rfl, k06⟩
  by_cases la : 2900 < a.length
  · (refine C_region ?_
     <;> (first | refine M_int rfl ?_ | refine W_move ?_)
     <;> (refine W_neq rfl rfl (fun hc => ?_) (fun hc => ?_) <;> try (exfalso; omega))
     <;> (first | refine M_bool rfl ?_ | refine W_move ?_)
     <;> (first | refine W_no rfl ?_ | (refine W_yes rfl ?_; (first | refine M_int rfl ?_ | refine W_move ?_)))
     <;> (first | refine W_no rfl ?_ | (refine W_yes rfl ?_; (refine W_neq rfl rfl (fun hc => ?_) (fun hc => ?_) <;> try (exfalso; omega))))
     <;> ((first | refine M_pick_t rfl ?_ | refine M_pick_f rfl ?_); (first | refine M_bool rfl ?_ | refine W_move ?_))
     <;> (first | refine M_bool rfl ?_ | refine W_move ?_)
     <;> (first | refine W_no rfl ?_ | (refine W_yes rfl ?_; (first | refine M_str rfl ?_ | refine W_move ?_)))
     <;> (first | refine W_no rfl ?_ | (refine W_yes rfl ?_; refine W_slen rfl ?_))
     <;> (first | refine W_no rfl ?_ | (refine W_yes rfl ?_; (refine W_gtr rfl rfl (fun hc => ?_) (fun hc => ?_) <;> try (exfalso; omega))))
     <;> ((first | refine M_pick_t rfl ?_ | refine M_pick_f rfl ?_); (first | refine M_bool rfl ?_ | refine W_move ?_))
     <;> (first | refine M_bool rfl ?_ | refine W_move ?_)
     <;> (first | refine W_no rfl ?_ | (refine W_yes rfl ?_; (first | refine M_str rfl ?_ | refine W_move ?_)))
     <;> (first | refine W_no rfl ?_ | (refine W_yes rfl ?_; refine W_slen rfl ?_))
     <;> (first | refine W_no rfl ?_ | (refine W_yes rfl ?_; (refine W_gtr rfl rfl (fun hc => ?_) (fun hc => ?_) <;> try (exfalso; omega))))
     <;> ((first | refine M_pick_t rfl ?_ | refine M_pick_f rfl ?_); (first | refine M_bool rfl ?_ | refine W_move ?_))
     <;> (first | refine M_bool rfl ?_ | refine W_move ?_)
     <;> (first | refine W_no rfl ?_ | (refine W_yes rfl ?_; (first | refine M_slice rfl ?_ | refine W_move ?_)))
     <;> (first | refine W_no rfl ?_ | (refine W_yes rfl ?_; refine W_len rfl ?_))
     <;> (first | refine W_no rfl ?_ | (refine W_yes rfl ?_; (refine W_gtr rfl rfl (fun hc => ?_) (fun hc => ?_) <;> try (exfalso; omega))))
     <;> ((first | refine M_pick_t rfl ?_ | refine M_pick_f rfl ?_); (first | refine M_bool rfl ?_ | refine W_move ?_))
     <;> (first | refine M_bool rfl ?_ | refine W_move ?_)
     <;> (first | refine W_no rfl ?_ | (refine W_yes rfl ?_; (first | refine M_slice rfl ?_ | refine W_move ?_)))
     <;> (first | refine W_no rfl ?_ | (refine W_yes rfl ?_; refine W_len rfl ?_))
     <;> (first | refine W_no rfl ?_ | (refine W_yes rfl ?_; (refine W_gtr rfl rfl (fun hc => ?_) (fun hc => ?_) <;> try (exfalso; omega))))
     <;> ((first | refine M_pick_t rfl ?_ | refine M_pick_f rfl ?_); (first | refine M_bool rfl ?_ | refine W_move ?_))
     <;> (first | refine M_bool rfl ?_ | refine W_move ?_)
     <;> (first | refine W_no rfl ?_ | (refine W_yes rfl ?_; (first | refine M_str rfl ?_ | refine W_move ?_)))
     <;> refine W_no rfl ?_
     <;> (first | refine W_no rfl ?_ | (refine W_yes rfl ?_; refine W_not rfl ?_))
     <;> ((first | refine M_pick_t rfl ?_ | refine M_pick_f rfl ?_); (first | refine M_bool rfl ?_ | refine W_move ?_))
     <;> refine W_nil ?_)
    repeat' first | refine nx ?_ | refine C_cond_t rfl ?_ | refine C_cond_f rfl ?_ | refine Q_block_on rfl ?_
    (refine C_region ?_
     <;> (first | refine M_bool rfl ?_ | refine W_move ?_)
     <;> (refine M_assign ?_; (first | refine M_bool rfl ?_ | refine W_move ?_))
     <;> refine W_nil ?_)
    repeat' first | refine nx ?_ | refine C_cond_t rfl ?_ | refine C_cond_f rfl ?_ | refine Q_block_on rfl ?_
    exact fin_ret1 rfl ⟨rfl, k06⟩
  by_cases lA : 900 < A.length
  · (refine C_region ?_
     <;> (first | refine M_int rfl ?_ | refine W_move ?_)
     <;> (refine W_neq rfl rfl (fun hc => ?_) (fun hc => ?_) <;> try (exfalso; omega))
     <;> (first | refine M_bool rfl ?_ | refine W_move ?_)
     <;> (first | refine W_no rfl ?_ | (refine W_yes rfl ?_; (first | refine M_int rfl ?_ | refine W_move ?_)))
     <;> (first | refine W_no rfl ?_ | (refine W_yes rfl ?_; (refine W_neq rfl rfl (fun hc => ?_) (fun hc => ?_) <;> try (exfalso; omega))))
     <;> ((first | refine M_pick_t rfl ?_ | refine M_pick_f rfl ?_); (first | refine M_bool rfl ?_ | refine W_move ?_))
     <;> (first | refine M_bool rfl ?_ | refine W_move ?_)
     <;> (first | refine W_no rfl ?_ | (refine W_yes rfl ?_; (first | refine M_str rfl ?_ | refine W_move ?_)))
     <;> (first | refine W_no rfl ?_ | (refine W_yes rfl ?_; refine W_slen rfl ?_))
     <;> (first | refine W_no rfl ?_ | (refine W_yes rfl ?_; (refine W_gtr rfl rfl (fun hc => ?_) (fun hc => ?_) <;> try (exfalso; omega))))
     <;> ((first | refine M_pick_t rfl ?_ | refine M_pick_f rfl ?_); (first | refine M_bool rfl ?_ | refine W_move ?_))
     <;> (first | refine M_bool rfl ?_ | refine W_move ?_)
     <;> (first | refine W_no rfl ?_ | (refine W_yes rfl ?_; (first | refine M_str rfl ?_ | refine W_move ?_)))
     <;> (first | refine W_no rfl ?_ | (refine W_yes rfl ?_; refine W_slen rfl ?_))
     <;> (first | refine W_no rfl ?_ | (refine W_yes rfl ?_; (refine W_gtr rfl rfl (fun hc => ?_) (fun hc => ?_) <;> try (exfalso; omega))))
     <;> ((first | refine M_pick_t rfl ?_ | refine M_pick_f rfl ?_); (first | refine M_bool rfl ?_ | refine W_move ?_))
     <;> (first | refine M_bool rfl ?_ | refine W_move ?_)
     <;> (first | refine W_no rfl ?_ | (refine W_yes rfl ?_; (first | refine M_slice rfl ?_ | refine W_move ?_)))
     <;> (first | refine W_no rfl ?_ | (refine W_yes rfl ?_; refine W_len rfl ?_))
     <;> (first | refine W_no rfl ?_ | (refine W_yes rfl ?_; (refine W_gtr rfl rfl (fun hc => ?_) (fun hc => ?_) <;> try (exfalso; omega))))
     <;> ((first | refine M_pick_t rfl ?_ | refine M_pick_f rfl ?_); (first | refine M_bool rfl ?_ | refine W_move ?_))
     <;> (first | refine M_bool rfl ?_ | refine W_move ?_)
     <;> (first | refine W_no rfl ?_ | (refine W_yes rfl ?_; (first | refine M_slice rfl ?_ | refine W_move ?_)))
     <;> (first | refine W_no rfl ?_ | (refine W_yes rfl ?_; refine W_len rfl ?_))
     <;> (first | refine W_no rfl ?_ | (refine W_yes rfl ?_; (refine W_gtr rfl rfl (fun hc => ?_) (fun hc => ?_) <;> try (exfalso; omega))))
     <;> ((first | refine M_pick_t rfl ?_ | refine M_pick_f rfl ?_); (first | refine M_bool rfl ?_ | refine W_move ?_))
     <;> (first | refine M_bool rfl ?_ | refine W_move ?_)
     <;> (first | refine W_no rfl ?_ | (refine W_yes rfl ?_; (first | refine M_str rfl ?_ | refine W_move ?_)))
     <;> refine W_no rfl ?_
     <;> (first | refine W_no rfl ?_ | (refine W_yes rfl ?_; refine W_not rfl ?_))
     <;> ((first | refine M_pick_t rfl ?_ | refine M_pick_f rfl ?_); (first | refine M_bool rfl ?_ | refine W_move ?_))
     <;> refine W_nil ?_)
    repeat' first | refine nx ?_ | refine C_cond_t rfl ?_ | refine C_cond_f rfl ?_ | refine Q_block_on rfl ?_
    (refine C_region ?_
     <;> (first | refine M_bool rfl ?_ | refine W_move ?_)
     <;> (refine M_assign ?_; (first | refine M_bool rfl ?_ | refine W_move ?_))
     <;> refine W_nil ?_)
    repeat' first | refine nx ?_ | refine C_cond_t rfl ?_ | refine C_cond_f rfl ?_ | refine Q_block_on rfl ?_
    exact fin_ret1 rfl ⟨rfl, k06⟩
  by_cases lB : 900 < B.length
  · (refine C_region ?_
     <;> (first | refine M_int rfl ?_ | refine W_move ?_)
     <;> (refine W_neq rfl rfl (fun hc => ?_) (fun hc => ?_) <;> try (exfalso; omega))
     <;> (first | refine M_bool rfl ?_ | refine W_move ?_)
     <;> (first | refine W_no rfl ?_ | (refine W_yes rfl ?_; (first | refine M_int rfl ?_ | refine W_move ?_)))
     <;> (first | refine W_no rfl ?_ | (refine W_yes rfl ?_; (refine W_neq rfl rfl (fun hc => ?_) (fun hc => ?_) <;> try (exfalso; omega))))
     <;> ((first | refine M_pick_t rfl ?_ | refine M_pick_f rfl ?_); (first | refine M_bool rfl ?_ | refine W_move ?_))
     <;> (first | refine M_bool rfl ?_ | refine W_move ?_)
     <;> (first | refine W_no rfl ?_ | (refine W_yes rfl ?_; (first | refine M_str rfl ?_ | refine W_move ?_)))
     <;> (first | refine W_no rfl ?_ | (refine W_yes rfl ?_; refine W_slen rfl ?_))
     <;> (first | refine W_no rfl ?_ | (refine W_yes rfl ?_; (refine W_gtr rfl rfl (fun hc => ?_) (fun hc => ?_) <;> try (exfalso; omega))))
     <;> ((first | refine M_pick_t rfl ?_ | refine M_pick_f rfl ?_); (first | refine M_bool rfl ?_ | refine W_move ?_))
     <;> (first | refine M_bool rfl ?_ | refine W_move ?_)
     <;> (first | refine W_no rfl ?_ | (refine W_yes rfl ?_; (first | refine M_str rfl ?_ | refine W_move ?_)))
     <;> (first | refine W_no rfl ?_ | (refine W_yes rfl ?_; refine W_slen rfl ?_))
     <;> (first | refine W_no rfl ?_ | (refine W_yes rfl ?_; (refine W_gtr rfl rfl (fun hc => ?_) (fun hc => ?_) <;> try (exfalso; omega))))
     <;> ((first | refine M_pick_t rfl ?_ | refine M_pick_f rfl ?_); (first | refine M_bool rfl ?_ | refine W_move ?_))
     <;> (first | refine M_bool rfl ?_ | refine W_move ?_)
     <;> (first | refine W_no rfl ?_ | (refine W_yes rfl ?_; (first | refine M_slice rfl ?_ | refine W_move ?_)))
     <;> (first | refine W_no rfl ?_ | (refine W_yes rfl ?_; refine W_len rfl ?_))
     <;> (first | refine W_no rfl ?_ | (refine W_yes rfl ?_; (refine W_gtr rfl rfl (fun hc => ?_) (fun hc => ?_) <;> try (exfalso; omega))))
     <;> ((first | refine M_pick_t rfl ?_ | refine M_pick_f rfl ?_); (first | refine M_bool rfl ?_ | refine W_move ?_))
     <;> (first | refine M_bool rfl ?_ | refine W_move ?_)
     <;> (first | refine W_no rfl ?_ | (refine W_yes rfl ?_; (first | refine M_slice rfl ?_ | refine W_move ?_)))
     <;> (first | refine W_no rfl ?_ | (refine W_yes rfl ?_; refine W_len rfl ?_))
     <;> (first | refine W_no rfl ?_ | (refine W_yes rfl ?_; (refine W_gtr rfl rfl (fun hc => ?_) (fun hc => ?_) <;> try (exfalso; omega))))
     <;> ((first | refine M_pick_t rfl ?_ | refine M_pick_f rfl ?_); (first | refine M_bool rfl ?_ | refine W_move ?_))
     <;> (first | refine M_bool rfl ?_ | refine W_move ?_)
     <;> (first | refine W_no rfl ?_ | (refine W_yes rfl ?_; (first | refine M_str rfl ?_ | refine W_move ?_)))
     <;> refine W_no rfl ?_
     <;> (first | refine W_no rfl ?_ | (refine W_yes rfl ?_; refine W_not rfl ?_))
     <;> ((first | refine M_pick_t rfl ?_ | refine M_pick_f rfl ?_); (first | refine M_bool rfl ?_ | refine W_move ?_))
     <;> refine W_nil ?_)
    repeat' first | refine nx ?_ | refine C_cond_t rfl ?_ | refine C_cond_f rfl ?_ | refine Q_block_on rfl ?_
    (refine C_region ?_
     <;> (first | refine M_bool rfl ?_ | refine W_move ?_)
     <;> (refine M_assign ?_; (first | refine M_bool rfl ?_ | refine W_move ?_))
     <;> refine W_nil ?_)
    repeat' first | refine nx ?_ | refine C_cond_t rfl ?_ | refine C_cond_f rfl ?_ | refine Q_block_on rfl ?_
    exact fin_ret1 rfl ⟨rfl, k06⟩
  (refine C_region ?_
   <;> (first | refine M_int rfl ?_ | refine W_move ?_)
   <;> (refine W_neq rfl rfl (fun hc => ?_) (fun hc => ?_) <;> try (exfalso; omega))
   <;> (first | refine M_bool rfl ?_ | refine W_move ?_)
   <;> (first | refine W_no rfl ?_ | (refine W_yes rfl ?_; (first | refine M_int rfl ?_ | refine W_move ?_)))
   <;> (first | refine W_no rfl ?_ | (refine W_yes rfl ?_; (refine W_neq rfl rfl (fun hc => ?_) (fun hc => ?_) <;> try (exfalso; omega))))
   <;> ((first | refine M_pick_t rfl ?_ | refine M_pick_f rfl ?_); (first | refine M_bool rfl ?_ | refine W_move ?_))
   <;> (first | refine M_bool rfl ?_ | refine W_move ?_)
   <;> (first | refine W_no rfl ?_ | (refine W_yes rfl ?_; (first | refine M_str rfl ?_ | refine W_move ?_)))
   <;> (first | refine W_no rfl ?_ | (refine W_yes rfl ?_; refine W_slen rfl ?_))
   <;> (first | refine W_no rfl ?_ | (refine W_yes rfl ?_; (refine W_gtr rfl rfl (fun hc => ?_) (fun hc => ?_) <;> try (exfalso; omega))))
   <;> ((first | refine M_pick_t rfl ?_ | refine M_pick_f rfl ?_); (first | refine M_bool rfl ?_ | refine W_move ?_))
   <;> (first | refine M_bool rfl ?_ | refine W_move ?_)
   <;> (first | refine W_no rfl ?_ | (refine W_yes rfl ?_; (first | refine M_str rfl ?_ | refine W_move ?_)))
   <;> (first | refine W_no rfl ?_ | (refine W_yes rfl ?_; refine W_slen rfl ?_))
   <;> (first | refine W_no rfl ?_ | (refine W_yes rfl ?_; (refine W_gtr rfl rfl (fun hc => ?_) (fun hc => ?_) <;> try (exfalso; omega))))
   <;> ((first | refine M_pick_t rfl ?_ | refine M_pick_f rfl ?_); (first | refine M_bool rfl ?_ | refine W_move ?_))
   <;> (first | refine M_bool rfl ?_ | refine W_move ?_)
   <;> (first | refine W_no rfl ?_ | (refine W_yes rfl ?_; (first | refine M_slice rfl ?_ | refine W_move ?_)))
   <;> (first | refine W_no rfl ?_ | (refine W_yes rfl ?_; refine W_len rfl ?_))
   <;> (first | refine W_no rfl ?_ | (refine W_yes rfl ?_; (refine W_gtr rfl rfl (fun hc => ?_) (fun hc => ?_) <;> try (exfalso; omega))))
   <;> ((first | refine M_pick_t rfl ?_ | refine M_pick_f rfl ?_); (first | refine M_bool rfl ?_ | refine W_move ?_))
   <;> (first | refine M_bool rfl ?_ | refine W_move ?_)
   <;> (first | refine W_no rfl ?_ | (refine W_yes rfl ?_; (first | refine M_slice rfl ?_ | refine W_move ?_)))
   <;> (first | refine W_no rfl ?_ | (refine W_yes rfl ?_; refine W_len rfl ?_))
   <;> (first | refine W_no rfl ?_ | (refine W_yes rfl ?_; (refine W_gtr rfl rfl (fun hc => ?_) (fun hc => ?_) <;> try (exfalso; omega))))
   <;> ((first | refine M_pick_t rfl ?_ | refine M_pick_f rfl ?_); (first | refine M_bool rfl ?_ | refine W_move ?_))
   <;> (first | refine M_bool rfl ?_ | refine W_move ?_)
   <;> (first | refine W_no rfl ?_ | (refine W_yes rfl ?_; (first | refine M_str rfl ?_ | refine W_move ?_))))
  -- at operation 28: <dst=(some 89) op=(call <callee=(value (func 24)) args=[(tmp 88)] argTypes=[9]>) type=4 guard=(some [26, false])>
  (refine W_yes rfl ?_; refine W_call (refName_ok nm w6) rfl ?_)
  rintro _ w7 ⟨rfl, k7⟩
  have k07 := k06.trans k7
  cases hnm : nameB nm with
  | false =>
    ((first | refine W_no rfl ?_ | (refine W_yes rfl ?_; refine W_not rfl ?_))
     <;> ((first | refine M_pick_t rfl ?_ | refine M_pick_f rfl ?_); (first | refine M_bool rfl ?_ | refine W_move ?_))
     <;> refine W_nil ?_)
    repeat' first | refine nx ?_ | refine C_cond_t rfl ?_ | refine C_cond_f rfl ?_ | refine Q_block_on rfl ?_
    (refine C_region ?_
     <;> (first | refine M_bool rfl ?_ | refine W_move ?_)
     <;> (refine M_assign ?_; (first | refine M_bool rfl ?_ | refine W_move ?_))
     <;> refine W_nil ?_)
    repeat' first | refine nx ?_ | refine C_cond_t rfl ?_ | refine C_cond_f rfl ?_ | refine Q_block_on rfl ?_
    exact fin_ret1 rfl ⟨rfl, k07⟩
  | true =>
    ((first | refine W_no rfl ?_ | (refine W_yes rfl ?_; refine W_not rfl ?_))
     <;> ((first | refine M_pick_t rfl ?_ | refine M_pick_f rfl ?_); (first | refine M_bool rfl ?_ | refine W_move ?_))
     <;> refine W_nil ?_)
    repeat' first | refine nx ?_ | refine C_cond_t rfl ?_ | refine C_cond_f rfl ?_ | refine Q_block_on rfl ?_
    obtain ⟨s, hs⟩ := pS.zero.1 hS
    obtain ⟨f, hf⟩ := pF.zero.1 hF
    subst hf
    subst hs
    obtain ⟨A', hmA, hrA⟩ := PRes.tokensN pS
    obtain ⟨B', hmB, hrB⟩ := PRes.tokensN pF
    obtain rfl : A = A' := by
      rcases hA with ⟨h, _⟩ | ⟨p, h, _⟩
      · rw [hmA] at h; cases h; rfl
      · rw [hmA] at h; cases h
    obtain rfl : B = B' := by
      rcases hB with ⟨h, _⟩ | ⟨p, h, _⟩
      · rw [hmB] at h; cases h; rfl
      · rw [hmB] at h; cases h
    have ln := name_len hnm
    have lawS := spec_law hnm hmA hrA hmB hrB (by omega) (by omega) (by omega) (by omega)
    have lawX := add_law hnm hmB hrB (by omega) (by omega)
    have lawY := replace_law hnm hmB hrB (by omega) (by omega)
    have lawZ := drop_law hnm
    clear hA hB hTA hTB pS pF
    (refine C_region ?_
     <;> (first | refine M_str rfl ?_ | refine W_move ?_))
    refine W_sadd rfl rfl (by simp; omega) ?_
    refine W_sadd rfl rfl (by simp; omega) ?_
    ((first | refine M_str rfl ?_ | refine W_move ?_))
    refine W_sadd rfl rfl (by simp; omega) ?_
    refine W_sadd rfl rfl (by simp; omega) ?_
    have eR : [103, 117, 97, 114, 97, 110, 116, 101, 101, 32] ++ nm ++ [58, 32] ++ a ++ [10] = reqT nm a := by simp [reqT]
    rw [eR]
    have lR := reqT_len nm a
    generalize hR : reqT nm a = r at lR lawX lawY ⊢
    ((refine M_assign ?_; (first | refine M_str rfl ?_ | refine W_move ?_))
     <;> refine W_nil ?_)
    repeat' first | refine nx ?_ | refine C_cond_t rfl ?_ | refine C_cond_f rfl ?_ | refine Q_block_on rfl ?_
    (refine C_region ?_
     <;> (first | refine M_str rfl ?_ | refine W_move ?_))
    refine W_sadd rfl rfl (by simp; omega) ?_
    ((first | refine M_str rfl ?_ | refine W_move ?_))
    refine W_sadd rfl rfl (by simp; omega) ?_
    refine W_sadd rfl rfl (by simp; omega) ?_
    refine W_call (spec_form w7 _ (hG.ext k07)) rfl ?_
    rintro _ w8 ⟨k8, oT, t0, t1, pT, rfl, ft0, ft1, nT⟩
    have hT : oT = .ok ⟨s.sigs, s.reqs ++ [wantR nm f]⟩ := by
      refine PRes.det (nt := .spec) pT ?_
      have e : t ++ (10 :: [112, 97, 114, 116, 32, 113, 32, 123, 32, 125, 32, 112, 97, 114, 116, 32, 112, 32, 123, 32]) ++ r ++ [59, 32, 125] = specT t nm a := by simp [specT, hR]
      rw [← e] at lawS
      exact lawS
    have heT : oT.errno = 0 := by rw [hT]; rfl
    rw [hT] at ft0 ft1
    clear pT lawS
    ((first | refine M_tuple rfl ?_ | refine W_move ?_)
     <;> refine W_extract rfl rfl ?_
     <;> refine W_extract rfl rfl ?_
     <;> refine W_extract rfl rfl ?_)
    -- at operation 10: <dst=(some 21) op=(alloc 36) type=0 guard=none>
    refine W_newAgg (cs := [t0, t1]) rfl rfl (by rfl) nT (fun w9 n9 => ?_)
    ((refine M_assign ?_; (first | refine M_int rfl ?_ | refine W_move ?_))
     <;> (refine M_assign ?_; (first | refine M_int rfl ?_ | refine W_move ?_))
     <;> refine W_nil ?_)
    repeat' first | refine nx ?_ | refine C_cond_t rfl ?_ | refine C_cond_f rfl ?_ | refine Q_block_on rfl ?_
    have bT := n9.blk
    have k49 := ((k46.trans k7).trans k8).trans n9.keep
    have k09 := (k07.trans k8).trans n9.keep
    have bF9 := bF.keep k49 (by simp)
    have oneW := reqR.one (wantR_fits (nm := nm) fF)
    (refine C_region ?_
     <;> (first | refine M_str rfl ?_ | refine W_move ?_)
     <;> (first | refine W_load_aggB rfl (by assumption) (by rfl) ?_ | refine W_load_agg rfl (by rfl) (Blk.cells (by assumption)) ?_)
     <;> refine W_build (by rfl) (by rfl) ?_)
    -- at operation 3: <dst=(some 24) op=(alloc 41) type=0 guard=none>
    refine W_newAgg (cs := [strV [112], strV nm, .int .i64 2, f0, f1, f2, f3, f4]) rfl rfl (by rfl) oneW (fun w10 n10 => ?_)
    (refine W_nil ?_)
    repeat' first | refine nx ?_ | refine C_cond_t rfl ?_ | refine C_cond_f rfl ?_ | refine Q_block_on rfl ?_
    have bR := n10.blk
    have k010 := k09.trans n10.keep
    (refine C_region ?_
     <;> (first | refine M_str rfl ?_ | refine W_move ?_))
    refine W_sadd rfl rfl (by simp; omega) ?_
    refine W_call (edit_form w10 _ (hG.ext k010)) rfl ?_
    rintro _ w11 ⟨k11, oX, x0, x1, x2, x3, x4, x5, x6, x7, x8, pX, rfl, fX, nX⟩
    have hX : oX = .ok ⟨1, wantR nm f⟩ := PRes.det (nt := .edit) pX lawX
    have heX : oX.errno = 0 := by rw [hX]; rfl
    rw [hX] at fX
    clear pX lawX hX
    ((first | refine M_tuple rfl ?_ | refine W_move ?_)
     <;> refine W_extract rfl rfl ?_
     <;> refine W_extract rfl rfl ?_
     <;> refine W_extract rfl rfl ?_)
    -- at operation 7: <dst=(some 25) op=(alloc 43) type=0 guard=none>
    refine W_newAgg (cs := [x0, x1, x2, x3, x4, x5, x6, x7, x8]) rfl rfl (by rfl) nX (fun w12 n12 => ?_)
    ((refine M_assign ?_; (first | refine M_int rfl ?_ | refine W_move ?_))
     <;> (refine M_assign ?_; (first | refine M_int rfl ?_ | refine W_move ?_))
     <;> refine W_nil ?_)
    repeat' first | refine nx ?_ | refine C_cond_t rfl ?_ | refine C_cond_f rfl ?_ | refine Q_block_on rfl ?_
    have bX := n12.blk
    have k012 := (k010.trans k11).trans n12.keep
    (refine C_region ?_
     <;> (first | refine M_str rfl ?_ | refine W_move ?_))
    refine W_sadd rfl rfl (by simp; omega) ?_
    refine W_call (edit_form w12 _ (hG.ext k012)) rfl ?_
    rintro _ w13 ⟨k13, oY, y0, y1, y2, y3, y4, y5, y6, y7, y8, pY, rfl, fY, nY⟩
    have hY : oY = .ok ⟨3, wantR nm f⟩ := PRes.det (nt := .edit) pY lawY
    have heY : oY.errno = 0 := by rw [hY]; rfl
    rw [hY] at fY
    clear pY lawY hY
    ((first | refine M_tuple rfl ?_ | refine W_move ?_)
     <;> refine W_extract rfl rfl ?_
     <;> refine W_extract rfl rfl ?_
     <;> refine W_extract rfl rfl ?_)
    -- at operation 7: <dst=(some 28) op=(alloc 43) type=0 guard=none>
    refine W_newAgg (cs := [y0, y1, y2, y3, y4, y5, y6, y7, y8]) rfl rfl (by rfl) nY (fun w14 n14 => ?_)
    ((refine M_assign ?_; (first | refine M_int rfl ?_ | refine W_move ?_))
     <;> (refine M_assign ?_; (first | refine M_int rfl ?_ | refine W_move ?_))
     <;> refine W_nil ?_)
    repeat' first | refine nx ?_ | refine C_cond_t rfl ?_ | refine C_cond_f rfl ?_ | refine Q_block_on rfl ?_
    have bY := n14.blk
    have k014 := (k012.trans k13).trans n14.keep
    (refine C_region ?_
     <;> (first | refine M_str rfl ?_ | refine W_move ?_))
    refine W_sadd rfl rfl (by simp; omega) ?_
    refine W_call (edit_form w14 _ (hG.ext k014)) rfl ?_
    rintro _ w15 ⟨k15, oZ, z0, z1, z2, z3, z4, z5, z6, z7, z8, pZ, rfl, fZ, nZ⟩
    have hZ : oZ = .ok ⟨2, ⟨[], nm, 0, zeroF⟩⟩ := PRes.det (nt := .edit) pZ lawZ
    have heZ : oZ.errno = 0 := by rw [hZ]; rfl
    rw [hZ] at fZ
    clear pZ lawZ hZ
    ((first | refine M_tuple rfl ?_ | refine W_move ?_)
     <;> refine W_extract rfl rfl ?_
     <;> refine W_extract rfl rfl ?_
     <;> refine W_extract rfl rfl ?_)
    -- at operation 7: <dst=(some 31) op=(alloc 43) type=0 guard=none>
    refine W_newAgg (cs := [z0, z1, z2, z3, z4, z5, z6, z7, z8]) rfl rfl (by rfl) nZ (fun w16 n16 => ?_)
    ((refine M_assign ?_; (first | refine M_int rfl ?_ | refine W_move ?_))
     <;> (refine M_assign ?_; (first | refine M_int rfl ?_ | refine W_move ?_))
     <;> refine W_nil ?_)
    repeat' first | refine nx ?_ | refine C_cond_t rfl ?_ | refine C_cond_f rfl ?_ | refine Q_block_on rfl ?_
    have bZ := n16.blk
    have k016 := (k014.trans k15).trans n16.keep
    have k1416 := k15.trans n16.keep
    have k1216 := (k13.trans n14.keep).trans k1416
    have k1016 := (k11.trans n12.keep).trans k1216
    have k916 := n10.keep.trans k1016
    have k216 : Ext w2 w16 := ((k26.trans k7).trans (k8.trans n9.keep)).trans k916
    replace bS := bS.keep k216 (by simp)
    replace bT := bT.keep k916 (by simp)
    replace bR := bR.keep k1016 (by simp)
    replace bX := bX.keep k1216 (by simp)
    replace bY := bY.keep k1416 (by simp)
    replace fs0 := (fs0.ext n2.keep).ext k216
    replace fs1 := (fs1.ext n2.keep).ext k216
    replace fF : FV w16 _ f := (((fF.ext n4.keep).ext k49).ext n10.keep).ext k1016
    replace ft0 := (ft0.ext n9.keep).ext k916
    replace ft1 := (ft1.ext n9.keep).ext k916
    replace fX := edtR.ext (edtR.ext fX n12.keep) k1216
    replace fY := edtR.ext (edtR.ext fY n14.keep) k1416
    replace fZ := edtR.ext fZ n16.keep
    obtain ⟨ra, rc, LR, rfl, SR, FR⟩ := fs1
    have hRl : LR.flatten.length = (Out.val zeroS (.ok s : Out Spc)).reqs.length * 8 := FR.flat
    have hRo := FR.oneC
    have hrl : (Out.val zeroS (.ok s : Out Spc)).reqs.length ≤ 1000000 := by
      have := spec_cnt hrA
      show s.reqs.length ≤ _
      omega
    generalize hreqs : (Out.val zeroS (.ok s : Out Spc)).reqs = reqs at SR FR hRl hrl
    clear k0 k1 k2 k3 k46 k26 k06 k7 k07 k8 k49 k09 bF bF9 k010 k11 k012 k13 k014 k15 k1416 k1216 k1016 k916 k216 n2 n4 n9 n10 n12 n14 n16 nX nY nZ nT nS nF
    refine C_drawN (.read 0 (.read 1 (.read 2 (.read 3 (.read 4 (.read 5 (.read 6 (.alt 7 (.read 8 (.read 9 (.read 10 (.read 11 (.read 13 (.read 14 (.read 16 (.alt 12 (.alt 15 (.alt 17 (.alt 18 (.alt 19 (.read 20 (.read 21 .done)) .stop) .stop) .stop) (.alt 17 (.alt 15 (.alt 18 (.alt 19 (.read 20 (.read 21 .done)) .stop) .stop) .stop) .stop)) (.alt 17 (.alt 12 (.alt 15 (.alt 18 (.alt 19 (.read 20 (.read 21 .done)) .stop) .stop) .stop) .stop) .stop))))))))) .stop)))))))) mixed (by kernel_rfl) (fun wd kd ed => ⟨Ext wd, ?_, ?_⟩)
    · exact Ext.refl _
    have qa : ∀ W, Ext wd W → W.cell? ⟨w8.heap.size, 0 + 0, none⟩ = some t0 := fun W e => ((bT.keep kd (by simp)).keep e (by simp)).cell rfl
    have qb : ∀ W, Ext wd W → W.cell? ⟨w8.heap.size, 0 + 1, none⟩ = some t1 := fun W e => ((bT.keep kd (by simp)).keep e (by simp)).cell rfl
    have qc : ∀ W, Ext wd W → W.cell? ⟨w1.heap.size, 0 + 0, none⟩ = some c0 := fun W e => ((bS.keep kd (by simp)).keep e (by simp)).cell rfl
    have qd : ∀ W, Ext wd W → W.cell? ⟨w1.heap.size, 0 + 1, none⟩ = some (.slice ra reqs.length rc) := fun W e => ((bS.keep kd (by simp)).keep e (by simp)).cell (by rw [← hreqs]; rfl)
    have qe : ∀ W, Ext wd W → Cells W w9.heap.size 0 [strV [112], strV nm, .int .i64 2, f0, f1, f2, f3, f4] := fun W e => ((bR.keep kd (by simp)).keep e (by simp)).cells
    ((apply D_R rfl rfl; (intro W hW; (first | refine M_int rfl ?_ | refine W_move ?_); exact W_nil ⟨rfl, rfl, rfl⟩))
     <;> (refine D_eql rfl rfl rfl rfl (fun hc => ?_) (fun hc => ?_) <;> try (exfalso; omega))
     <;> (apply D_R rfl rfl; (intro W hW; (first | refine M_bool rfl ?_ | refine W_move ?_); exact W_nil ⟨rfl, rfl, rfl⟩))
     <;> (first | refine D_skip rfl rfl rfl rfl ?_ | (apply D_R rfl rfl; (intro W hW; refine W_no rfl ?_; exact W_nil ⟨rfl, rfl, rfl⟩)) | (apply D_R rfl rfl; (intro W hW; (refine W_yes rfl ?_; refine W_fieldAddr rfl ?_); exact W_nil ⟨rfl, rfl, rfl⟩)))
     <;> (first | refine D_skip rfl rfl rfl rfl ?_ | (apply D_R rfl rfl; (intro W hW; refine W_no rfl ?_; exact W_nil ⟨rfl, rfl, rfl⟩)) | (apply D_R rfl rfl; (intro W hW; (refine W_yes rfl ?_; (first | refine W_load rfl (qa W hW) ?_ | refine W_load rfl (qb W hW) ?_ | refine W_load rfl (qc W hW) ?_ | refine W_load rfl (qd W hW) ?_ | refine W_load rfl (qe W hW) ?_ | refine W_load_agg rfl (by rfl) (qa W hW) ?_ | refine W_load_agg rfl (by rfl) (qb W hW) ?_ | refine W_load_agg rfl (by rfl) (qc W hW) ?_ | refine W_load_agg rfl (by rfl) (qd W hW) ?_ | refine W_load_agg rfl (by rfl) (qe W hW) ?_)); exact W_nil ⟨rfl, rfl, rfl⟩)))
     <;> (first | refine D_skip rfl rfl rfl rfl ?_ | (apply D_R rfl rfl; (intro W hW; refine W_no rfl ?_; exact W_nil ⟨rfl, rfl, rfl⟩)) | (apply D_R rfl rfl; (intro W hW; (refine W_yes rfl ?_; refine W_fieldAddr rfl ?_); exact W_nil ⟨rfl, rfl, rfl⟩)))
     <;> (first | refine D_skip rfl rfl rfl rfl ?_ | (apply D_R rfl rfl; (intro W hW; refine W_no rfl ?_; exact W_nil ⟨rfl, rfl, rfl⟩)) | (apply D_R rfl rfl; (intro W hW; (refine W_yes rfl ?_; (first | refine W_load rfl (qa W hW) ?_ | refine W_load rfl (qb W hW) ?_ | refine W_load rfl (qc W hW) ?_ | refine W_load rfl (qd W hW) ?_ | refine W_load rfl (qe W hW) ?_ | refine W_load_agg rfl (by rfl) (qa W hW) ?_ | refine W_load_agg rfl (by rfl) (qb W hW) ?_ | refine W_load_agg rfl (by rfl) (qc W hW) ?_ | refine W_load_agg rfl (by rfl) (qd W hW) ?_ | refine W_load_agg rfl (by rfl) (qe W hW) ?_)); exact W_nil ⟨rfl, rfl, rfl⟩))))
    -- at place 7, operation 7: <dst=(some 140) op=(call <callee=(value (func 26)) args=[(tmp 137), (tmp 139)] argTypes=[33, 33]>) type=4 guard=(some [2, true])>
    refine D_E rfl ?_
    (refine W_yes rfl ?_; refine W_call (sameSgn_ok wd t0 c0 _ _ (ft0.ext kd) (fs0.ext kd)) rfl ?_)
    rintro _ wp ⟨bb, rfl, hb, ep⟩
    obtain rfl : bb = true := hb.2 rfl
    refine W_nil ⟨Ext wd, fun _ e => e, ep, ?_⟩
    ((apply D_R rfl rfl; (intro W hW; ((first | refine M_pick_t rfl ?_ | refine M_pick_f rfl ?_); (first | refine M_bool rfl ?_ | refine W_move ?_)); exact W_nil ⟨rfl, rfl, rfl⟩))
     <;> (apply D_R rfl rfl; (intro W hW; (first | refine M_bool rfl ?_ | refine W_move ?_); exact W_nil ⟨rfl, rfl, rfl⟩))
     <;> (first | refine D_skip rfl rfl rfl rfl ?_ | (apply D_R rfl rfl; (intro W hW; refine W_no rfl ?_; exact W_nil ⟨rfl, rfl, rfl⟩)) | (apply D_R rfl rfl; (intro W hW; (refine W_yes rfl ?_; refine W_fieldAddr rfl ?_); exact W_nil ⟨rfl, rfl, rfl⟩)))
     <;> (first | refine D_skip rfl rfl rfl rfl ?_ | (apply D_R rfl rfl; (intro W hW; refine W_no rfl ?_; exact W_nil ⟨rfl, rfl, rfl⟩)) | (apply D_R rfl rfl; (intro W hW; (refine W_yes rfl ?_; (first | refine W_load rfl (qa W hW) ?_ | refine W_load rfl (qb W hW) ?_ | refine W_load rfl (qc W hW) ?_ | refine W_load rfl (qd W hW) ?_ | refine W_load rfl (qe W hW) ?_ | refine W_load_agg rfl (by rfl) (qa W hW) ?_ | refine W_load_agg rfl (by rfl) (qb W hW) ?_ | refine W_load_agg rfl (by rfl) (qc W hW) ?_ | refine W_load_agg rfl (by rfl) (qd W hW) ?_ | refine W_load_agg rfl (by rfl) (qe W hW) ?_)); exact W_nil ⟨rfl, rfl, rfl⟩)))
     <;> (first | refine D_skip rfl rfl rfl rfl ?_ | (apply D_R rfl rfl; (intro W hW; refine W_no rfl ?_; exact W_nil ⟨rfl, rfl, rfl⟩)) | (apply D_R rfl rfl; (intro W hW; (refine W_yes rfl ?_; refine W_fieldAddr rfl ?_); exact W_nil ⟨rfl, rfl, rfl⟩)))
     <;> (first | refine D_skip rfl rfl rfl rfl ?_ | (apply D_R rfl rfl; (intro W hW; refine W_no rfl ?_; exact W_nil ⟨rfl, rfl, rfl⟩)) | (apply D_R rfl rfl; (intro W hW; (refine W_yes rfl ?_; (first | refine W_load rfl (qa W hW) ?_ | refine W_load rfl (qb W hW) ?_ | refine W_load rfl (qc W hW) ?_ | refine W_load rfl (qd W hW) ?_ | refine W_load rfl (qe W hW) ?_ | refine W_load_agg rfl (by rfl) (qa W hW) ?_ | refine W_load_agg rfl (by rfl) (qb W hW) ?_ | refine W_load_agg rfl (by rfl) (qc W hW) ?_ | refine W_load_agg rfl (by rfl) (qd W hW) ?_ | refine W_load_agg rfl (by rfl) (qe W hW) ?_)); exact W_nil ⟨rfl, rfl, rfl⟩)))
     <;> (first | refine D_skip rfl rfl rfl rfl ?_ | (apply D_R rfl rfl; (intro W hW; refine W_no rfl ?_; exact W_nil ⟨rfl, rfl, rfl⟩)) | (apply D_R rfl rfl; (intro W hW; (refine W_yes rfl ?_; (first | refine W_load rfl (qa W hW) ?_ | refine W_load rfl (qb W hW) ?_ | refine W_load rfl (qc W hW) ?_ | refine W_load rfl (qd W hW) ?_ | refine W_load rfl (qe W hW) ?_ | refine W_load_agg rfl (by rfl) (qa W hW) ?_ | refine W_load_agg rfl (by rfl) (qb W hW) ?_ | refine W_load_agg rfl (by rfl) (qc W hW) ?_ | refine W_load_agg rfl (by rfl) (qd W hW) ?_ | refine W_load_agg rfl (by rfl) (qe W hW) ?_)); exact W_nil ⟨rfl, rfl, rfl⟩))))
    -- at place 15, operation 12 of [12, 17]: <dst=(some 145) op=(buildSlice 34 0 []) type=34 guard=(some [9, true])>
    refine D_A rfl ?_ ?_
    · (refine W_yes rfl ?_; refine W_buildSlice (out := []) rfl (by omega) (by kernel_rfl) (fun w12 m12 => ?_))
      have z12 := m12.size
      have e12 := ep.trans m12.keep
      have o12 := m12.own (n := 0) (size := 8) rfl (by decide) ep.size
      refine W_nil ⟨Ext wd, fun _ e => e, e12, ?_⟩
      refine D_A rfl ?_ ?_
      · (refine W_yes rfl ?_; refine W_append (ok := anyB) (v := .slice (some ⟨wp.heap.size, 0, none⟩) 0 0) (sv := .slice ra reqs.length rc) rfl rfl (o12) ((SR.ext kd).ext e12) (by omega) rfl hRl hRo (by omega) (by omega) (by have := e12.size; omega) (fun v15 w15 a15 => ?_))
        have o15 := a15.own
        have e15 : Ext wd w15 := e12.keep a15.keep fun y hy => (own_in (o12) (Option.mem_toList.1 hy)).1
        refine W_nil ⟨Ext wd, fun _ e => e, e15, ?_⟩
        refine D_E rfl ?_
        (refine W_yes rfl ?_; refine W_buildSlice (out := [strV [112], strV nm, .int .i64 2, f0, f1, f2, f3, f4]) rfl (by omega) (by kernel_rfl) (fun w17 m17 => ?_))
        have z17 := m17.size
        have e17 := e15.trans m17.keep
        have o17 := m17.own (n := 1) (size := 8) rfl (by decide) (Nat.le_refl _)
        refine W_nil ⟨Ext wd, fun _ e => e, e17, ?_⟩
        refine D_E rfl ?_
        (refine W_yes rfl ?_; refine W_append (ok := anyB) (v := v15) (sv := .slice (some ⟨w15.heap.size, 0, none⟩) 1 1) rfl rfl (ownsRow_ext o15 m17.keep) (Sl_of_own (o17) fun _ _ => trivial) (by omega) rfl rfl oneW (by omega) (by omega) (by have := e17.size; omega) (fun v18 w18 a18 => ?_))
        have o18 := a18.own
        have e18 : Ext wd w18 := e17.keep a18.keep fun y hy => (own_in (ownsRow_ext o15 m17.keep) (Option.mem_toList.1 hy)).1
        refine W_nil ⟨Ext wd, fun _ e => e, e18, ?_⟩
        refine D_E rfl ?_
        rw [Nat.zero_add, List.nil_append] at o18
        have hL18 : RsAt reqR anyB w18 LR reqs := (FR.ext kd).ext e18
        (refine W_yes rfl ?_; refine W_call (sameReqs_ok w18 t1 v18 _ _ ((ft1.ext kd).ext e18) (two_apps o18 hL18 (wantR_fits ((fF.ext kd).ext e18)))) rfl ?_)
        rintro _ w19 ⟨bb, rfl, hb, k19⟩
        obtain rfl : bb = true := hb.2 (by rw [← hreqs]; rfl)
        have e19 := e18.trans k19
        refine W_nil ⟨Ext wd, fun _ e => e, e19, ?_⟩
        ((apply D_R rfl rfl; (intro W hW; ((first | refine M_pick_t rfl ?_ | refine M_pick_f rfl ?_); (first | refine M_bool rfl ?_ | refine W_move ?_)); exact W_nil ⟨rfl, rfl, rfl⟩))
         <;> (apply D_R rfl rfl; (intro W hW; (refine M_assign ?_; (first | refine M_bool rfl ?_ | refine W_move ?_)); exact W_nil ⟨rfl, rfl, rfl⟩))
         <;> refine D_nil ?_)
        repeat' first | refine nx ?_ | refine C_cond_t rfl ?_ | refine C_cond_f rfl ?_ | refine Q_block_on rfl ?_
        have ke := kd.trans e19
        have bX9 := bX.keep ke (by simp)
        have bR9 := bR.keep ke (by simp)
        (refine C_region ?_
         <;> (first | refine M_int rfl ?_ | refine W_move ?_)
         <;> (refine W_eql rfl rfl (fun hc => ?_) (fun hc => ?_) <;> try (exfalso; omega))
         <;> (first | refine M_bool rfl ?_ | refine W_move ?_)
         <;> (first | refine W_no rfl ?_ | (refine W_yes rfl ?_; (first | refine W_load_aggB rfl (by assumption) (by rfl) ?_ | refine W_load_agg rfl (by rfl) (Blk.cells (by assumption)) ?_)))
         <;> (first | refine W_no rfl ?_ | (refine W_yes rfl ?_; (first | refine W_load_aggB rfl (by assumption) (by rfl) ?_ | refine W_load_agg rfl (by rfl) (Blk.cells (by assumption)) ?_)))
         <;> (first | refine W_no rfl ?_ | (refine W_yes rfl ?_; refine W_build (by rfl) (by rfl) ?_)))
        -- at operation 6: <dst=(some 160) op=(call <callee=(value (func 28)) args=[(tmp 157), (tmp 159)] argTypes=[43, 43]>) type=4 guard=(some [2, true])>
        (refine W_yes rfl ?_; refine W_call (sameEdit_ok w19 [x0, x1, x2, x3, x4, x5, x6, x7, x8] [.int .i64 1, strV [112], strV nm, .int .i64 2, f0, f1, f2, f3, f4] ⟨1, wantR nm f⟩ ⟨1, wantR nm f⟩ (edtR.ext fX ke) ⟨_, rfl, wantR_fits (fF.ext ke)⟩) rfl ?_)
        rintro _ w20 ⟨bb, rfl, hb, e20⟩
        obtain rfl : bb = true := hb.2 rfl
        have ke0 := ke.trans e20
        have bY20 := bY.keep ke0 (by simp)
        have bR20 := bR.keep ke0 (by simp)
        (((first | refine M_pick_t rfl ?_ | refine M_pick_f rfl ?_); (first | refine M_bool rfl ?_ | refine W_move ?_))
         <;> (first | refine M_bool rfl ?_ | refine W_move ?_)
         <;> (first | refine W_no rfl ?_ | (refine W_yes rfl ?_; (first | refine M_int rfl ?_ | refine W_move ?_)))
         <;> (first | refine W_no rfl ?_ | (refine W_yes rfl ?_; (refine W_eql rfl rfl (fun hc => ?_) (fun hc => ?_) <;> try (exfalso; omega))))
         <;> ((first | refine M_pick_t rfl ?_ | refine M_pick_f rfl ?_); (first | refine M_bool rfl ?_ | refine W_move ?_))
         <;> (first | refine M_bool rfl ?_ | refine W_move ?_)
         <;> (first | refine W_no rfl ?_ | (refine W_yes rfl ?_; (first | refine W_load_aggB rfl (by assumption) (by rfl) ?_ | refine W_load_agg rfl (by rfl) (Blk.cells (by assumption)) ?_)))
         <;> (first | refine W_no rfl ?_ | (refine W_yes rfl ?_; (first | refine W_load_aggB rfl (by assumption) (by rfl) ?_ | refine W_load_agg rfl (by rfl) (Blk.cells (by assumption)) ?_)))
         <;> (first | refine W_no rfl ?_ | (refine W_yes rfl ?_; refine W_build (by rfl) (by rfl) ?_)))
        -- at operation 16: <dst=(some 170) op=(call <callee=(value (func 28)) args=[(tmp 167), (tmp 169)] argTypes=[43, 43]>) type=4 guard=(some [12, true])>
        (refine W_yes rfl ?_; refine W_call (sameEdit_ok w20 [y0, y1, y2, y3, y4, y5, y6, y7, y8] [.int .i64 3, strV [112], strV nm, .int .i64 2, f0, f1, f2, f3, f4] ⟨3, wantR nm f⟩ ⟨3, wantR nm f⟩ (edtR.ext fY ke0) ⟨_, rfl, wantR_fits (fF.ext ke0)⟩) rfl ?_)
        rintro _ w21 ⟨bb, rfl, hb, e21⟩
        obtain rfl : bb = true := hb.2 rfl
        have ke1 := ke0.trans e21
        have bZ21 := bZ.keep ke1 (by simp)
        (((first | refine M_pick_t rfl ?_ | refine M_pick_f rfl ?_); (first | refine M_bool rfl ?_ | refine W_move ?_))
         <;> (refine M_assign ?_; (first | refine M_bool rfl ?_ | refine W_move ?_))
         <;> refine W_nil ?_)
        repeat' first | refine nx ?_ | refine C_cond_t rfl ?_ | refine C_cond_f rfl ?_ | refine Q_block_on rfl ?_
        (refine C_region ?_
         <;> (first | refine M_bool rfl ?_ | refine W_move ?_)
         <;> (first | refine M_bool rfl ?_ | refine W_move ?_)
         <;> (first | refine W_no rfl ?_ | (refine W_yes rfl ?_; (first | refine M_bool rfl ?_ | refine W_move ?_)))
         <;> ((first | refine M_pick_t rfl ?_ | refine M_pick_f rfl ?_); (first | refine M_bool rfl ?_ | refine W_move ?_))
         <;> (first | refine M_bool rfl ?_ | refine W_move ?_)
         <;> (first | refine W_no rfl ?_ | (refine W_yes rfl ?_; (first | refine M_bool rfl ?_ | refine W_move ?_)))
         <;> ((first | refine M_pick_t rfl ?_ | refine M_pick_f rfl ?_); (first | refine M_bool rfl ?_ | refine W_move ?_))
         <;> (first | refine M_bool rfl ?_ | refine W_move ?_)
         <;> (first | refine W_no rfl ?_ | (refine W_yes rfl ?_; (first | refine M_int rfl ?_ | refine W_move ?_)))
         <;> (first | refine W_no rfl ?_ | (refine W_yes rfl ?_; (refine W_eql rfl rfl (fun hc => ?_) (fun hc => ?_) <;> try (exfalso; omega))))
         <;> ((first | refine M_pick_t rfl ?_ | refine M_pick_f rfl ?_); (first | refine M_bool rfl ?_ | refine W_move ?_))
         <;> (first | refine M_bool rfl ?_ | refine W_move ?_)
         <;> (first | refine W_no rfl ?_ | (refine W_yes rfl ?_; (first | refine W_load_aggB rfl (by assumption) (by rfl) ?_ | refine W_load_agg rfl (by rfl) (Blk.cells (by assumption)) ?_)))
         <;> (first | refine W_no rfl ?_ | (refine W_yes rfl ?_; (first | refine M_str rfl ?_ | refine W_move ?_)))
         <;> (first | refine W_no rfl ?_ | (refine W_yes rfl ?_; refine W_build (by rfl) (by rfl) ?_))
         <;> (first | refine W_no rfl ?_ | (refine W_yes rfl ?_; refine W_build (by rfl) (by rfl) ?_)))
        -- at operation 16: <dst=(some 188) op=(call <callee=(value (func 28)) args=[(tmp 184), (tmp 187)] argTypes=[43, 43]>) type=4 guard=(some [11, true])>
        (refine W_yes rfl ?_; refine W_call (sameEdit_ok w21 [z0, z1, z2, z3, z4, z5, z6, z7, z8] [.int .i64 2, strV [], strV nm, .int .i64 0, .int .i64 0, strV [], .int .i64 0, .int .i64 0, .slice none 0 0] ⟨2, ⟨[], nm, 0, zeroF⟩⟩ ⟨2, ⟨[], nm, 0, zeroF⟩⟩ (edtR.ext fZ ke1) ⟨_, rfl, _, rfl, rfl, FAt.leaf _ _ _ _ _ _⟩) rfl ?_)
        rintro _ w22 ⟨bb, rfl, hb, e22⟩
        obtain rfl : bb = true := hb.2 rfl
        (((first | refine M_pick_t rfl ?_ | refine M_pick_f rfl ?_); (first | refine M_bool rfl ?_ | refine W_move ?_))
         <;> (refine M_assign ?_; (first | refine M_bool rfl ?_ | refine W_move ?_))
         <;> refine W_nil ?_)
        repeat' first | refine nx ?_ | refine C_cond_t rfl ?_ | refine C_cond_f rfl ?_ | refine Q_block_on rfl ?_
        exact fin_ret1 rfl ⟨rfl, (k016.trans ke1).trans e22⟩
      · refine D_E rfl ?_
        (refine W_yes rfl ?_; refine W_buildSlice (out := [strV [112], strV nm, .int .i64 2, f0, f1, f2, f3, f4]) rfl (by omega) (by kernel_rfl) (fun w17 m17 => ?_))
        have z17 := m17.size
        have e17 := e12.trans m17.keep
        have o17 := m17.own (n := 1) (size := 8) rfl (by decide) (Nat.le_refl _)
        refine W_nil ⟨Ext wd, fun _ e => e, e17, ?_⟩
        refine D_E rfl ?_
        (refine W_yes rfl ?_; refine W_append (ok := anyB) (v := .slice (some ⟨wp.heap.size, 0, none⟩) 0 0) (sv := .slice ra reqs.length rc) rfl rfl (ownsRow_ext o12 m17.keep) ((SR.ext kd).ext e17) (by omega) rfl hRl hRo (by omega) (by omega) (by have := e17.size; omega) (fun v15 w15 a15 => ?_))
        have o15 := a15.own
        have e15 : Ext wd w15 := e17.keep a15.keep fun y hy => (own_in (ownsRow_ext o12 m17.keep) (Option.mem_toList.1 hy)).1
        refine W_nil ⟨Ext wd, fun _ e => e, e15, ?_⟩
        have q17 := ownsRow_keep o17 a15.keep (fun g hg => by cases hg; simp [Value.ownBlock]; omega)
        refine D_E rfl ?_
        (refine W_yes rfl ?_; refine W_append (ok := anyB) (v := v15) (sv := .slice (some ⟨w12.heap.size, 0, none⟩) 1 1) rfl rfl (o15) (Sl_of_own (q17) fun _ _ => trivial) (by omega) rfl rfl oneW (by omega) (by omega) (by have := e15.size; omega) (fun v18 w18 a18 => ?_))
        have o18 := a18.own
        have e18 : Ext wd w18 := e15.keep a18.keep fun y hy => (own_in (o15) (Option.mem_toList.1 hy)).1
        refine W_nil ⟨Ext wd, fun _ e => e, e18, ?_⟩
        refine D_E rfl ?_
        rw [Nat.zero_add, List.nil_append] at o18
        have hL18 : RsAt reqR anyB w18 LR reqs := (FR.ext kd).ext e18
        (refine W_yes rfl ?_; refine W_call (sameReqs_ok w18 t1 v18 _ _ ((ft1.ext kd).ext e18) (two_apps o18 hL18 (wantR_fits ((fF.ext kd).ext e18)))) rfl ?_)
        rintro _ w19 ⟨bb, rfl, hb, k19⟩
        obtain rfl : bb = true := hb.2 (by rw [← hreqs]; rfl)
        have e19 := e18.trans k19
        refine W_nil ⟨Ext wd, fun _ e => e, e19, ?_⟩
        ((apply D_R rfl rfl; (intro W hW; ((first | refine M_pick_t rfl ?_ | refine M_pick_f rfl ?_); (first | refine M_bool rfl ?_ | refine W_move ?_)); exact W_nil ⟨rfl, rfl, rfl⟩))
         <;> (apply D_R rfl rfl; (intro W hW; (refine M_assign ?_; (first | refine M_bool rfl ?_ | refine W_move ?_)); exact W_nil ⟨rfl, rfl, rfl⟩))
         <;> refine D_nil ?_)
        repeat' first | refine nx ?_ | refine C_cond_t rfl ?_ | refine C_cond_f rfl ?_ | refine Q_block_on rfl ?_
        have ke := kd.trans e19
        have bX9 := bX.keep ke (by simp)
        have bR9 := bR.keep ke (by simp)
        (refine C_region ?_
         <;> (first | refine M_int rfl ?_ | refine W_move ?_)
         <;> (refine W_eql rfl rfl (fun hc => ?_) (fun hc => ?_) <;> try (exfalso; omega))
         <;> (first | refine M_bool rfl ?_ | refine W_move ?_)
         <;> (first | refine W_no rfl ?_ | (refine W_yes rfl ?_; (first | refine W_load_aggB rfl (by assumption) (by rfl) ?_ | refine W_load_agg rfl (by rfl) (Blk.cells (by assumption)) ?_)))
         <;> (first | refine W_no rfl ?_ | (refine W_yes rfl ?_; (first | refine W_load_aggB rfl (by assumption) (by rfl) ?_ | refine W_load_agg rfl (by rfl) (Blk.cells (by assumption)) ?_)))
         <;> (first | refine W_no rfl ?_ | (refine W_yes rfl ?_; refine W_build (by rfl) (by rfl) ?_)))
        -- at operation 6: <dst=(some 160) op=(call <callee=(value (func 28)) args=[(tmp 157), (tmp 159)] argTypes=[43, 43]>) type=4 guard=(some [2, true])>
        (refine W_yes rfl ?_; refine W_call (sameEdit_ok w19 [x0, x1, x2, x3, x4, x5, x6, x7, x8] [.int .i64 1, strV [112], strV nm, .int .i64 2, f0, f1, f2, f3, f4] ⟨1, wantR nm f⟩ ⟨1, wantR nm f⟩ (edtR.ext fX ke) ⟨_, rfl, wantR_fits (fF.ext ke)⟩) rfl ?_)
        rintro _ w20 ⟨bb, rfl, hb, e20⟩
        obtain rfl : bb = true := hb.2 rfl
        have ke0 := ke.trans e20
        have bY20 := bY.keep ke0 (by simp)
        have bR20 := bR.keep ke0 (by simp)
        (((first | refine M_pick_t rfl ?_ | refine M_pick_f rfl ?_); (first | refine M_bool rfl ?_ | refine W_move ?_))
         <;> (first | refine M_bool rfl ?_ | refine W_move ?_)
         <;> (first | refine W_no rfl ?_ | (refine W_yes rfl ?_; (first | refine M_int rfl ?_ | refine W_move ?_)))
         <;> (first | refine W_no rfl ?_ | (refine W_yes rfl ?_; (refine W_eql rfl rfl (fun hc => ?_) (fun hc => ?_) <;> try (exfalso; omega))))
         <;> ((first | refine M_pick_t rfl ?_ | refine M_pick_f rfl ?_); (first | refine M_bool rfl ?_ | refine W_move ?_))
         <;> (first | refine M_bool rfl ?_ | refine W_move ?_)
         <;> (first | refine W_no rfl ?_ | (refine W_yes rfl ?_; (first | refine W_load_aggB rfl (by assumption) (by rfl) ?_ | refine W_load_agg rfl (by rfl) (Blk.cells (by assumption)) ?_)))
         <;> (first | refine W_no rfl ?_ | (refine W_yes rfl ?_; (first | refine W_load_aggB rfl (by assumption) (by rfl) ?_ | refine W_load_agg rfl (by rfl) (Blk.cells (by assumption)) ?_)))
         <;> (first | refine W_no rfl ?_ | (refine W_yes rfl ?_; refine W_build (by rfl) (by rfl) ?_)))
        -- at operation 16: <dst=(some 170) op=(call <callee=(value (func 28)) args=[(tmp 167), (tmp 169)] argTypes=[43, 43]>) type=4 guard=(some [12, true])>
        (refine W_yes rfl ?_; refine W_call (sameEdit_ok w20 [y0, y1, y2, y3, y4, y5, y6, y7, y8] [.int .i64 3, strV [112], strV nm, .int .i64 2, f0, f1, f2, f3, f4] ⟨3, wantR nm f⟩ ⟨3, wantR nm f⟩ (edtR.ext fY ke0) ⟨_, rfl, wantR_fits (fF.ext ke0)⟩) rfl ?_)
        rintro _ w21 ⟨bb, rfl, hb, e21⟩
        obtain rfl : bb = true := hb.2 rfl
        have ke1 := ke0.trans e21
        have bZ21 := bZ.keep ke1 (by simp)
        (((first | refine M_pick_t rfl ?_ | refine M_pick_f rfl ?_); (first | refine M_bool rfl ?_ | refine W_move ?_))
         <;> (refine M_assign ?_; (first | refine M_bool rfl ?_ | refine W_move ?_))
         <;> refine W_nil ?_)
        repeat' first | refine nx ?_ | refine C_cond_t rfl ?_ | refine C_cond_f rfl ?_ | refine Q_block_on rfl ?_
        (refine C_region ?_
         <;> (first | refine M_bool rfl ?_ | refine W_move ?_)
         <;> (first | refine M_bool rfl ?_ | refine W_move ?_)
         <;> (first | refine W_no rfl ?_ | (refine W_yes rfl ?_; (first | refine M_bool rfl ?_ | refine W_move ?_)))
         <;> ((first | refine M_pick_t rfl ?_ | refine M_pick_f rfl ?_); (first | refine M_bool rfl ?_ | refine W_move ?_))
         <;> (first | refine M_bool rfl ?_ | refine W_move ?_)
         <;> (first | refine W_no rfl ?_ | (refine W_yes rfl ?_; (first | refine M_bool rfl ?_ | refine W_move ?_)))
         <;> ((first | refine M_pick_t rfl ?_ | refine M_pick_f rfl ?_); (first | refine M_bool rfl ?_ | refine W_move ?_))
         <;> (first | refine M_bool rfl ?_ | refine W_move ?_)
         <;> (first | refine W_no rfl ?_ | (refine W_yes rfl ?_; (first | refine M_int rfl ?_ | refine W_move ?_)))
         <;> (first | refine W_no rfl ?_ | (refine W_yes rfl ?_; (refine W_eql rfl rfl (fun hc => ?_) (fun hc => ?_) <;> try (exfalso; omega))))
         <;> ((first | refine M_pick_t rfl ?_ | refine M_pick_f rfl ?_); (first | refine M_bool rfl ?_ | refine W_move ?_))
         <;> (first | refine M_bool rfl ?_ | refine W_move ?_)
         <;> (first | refine W_no rfl ?_ | (refine W_yes rfl ?_; (first | refine W_load_aggB rfl (by assumption) (by rfl) ?_ | refine W_load_agg rfl (by rfl) (Blk.cells (by assumption)) ?_)))
         <;> (first | refine W_no rfl ?_ | (refine W_yes rfl ?_; (first | refine M_str rfl ?_ | refine W_move ?_)))
         <;> (first | refine W_no rfl ?_ | (refine W_yes rfl ?_; refine W_build (by rfl) (by rfl) ?_))
         <;> (first | refine W_no rfl ?_ | (refine W_yes rfl ?_; refine W_build (by rfl) (by rfl) ?_)))
        -- at operation 16: <dst=(some 188) op=(call <callee=(value (func 28)) args=[(tmp 184), (tmp 187)] argTypes=[43, 43]>) type=4 guard=(some [11, true])>
        (refine W_yes rfl ?_; refine W_call (sameEdit_ok w21 [z0, z1, z2, z3, z4, z5, z6, z7, z8] [.int .i64 2, strV [], strV nm, .int .i64 0, .int .i64 0, strV [], .int .i64 0, .int .i64 0, .slice none 0 0] ⟨2, ⟨[], nm, 0, zeroF⟩⟩ ⟨2, ⟨[], nm, 0, zeroF⟩⟩ (edtR.ext fZ ke1) ⟨_, rfl, _, rfl, rfl, FAt.leaf _ _ _ _ _ _⟩) rfl ?_)
        rintro _ w22 ⟨bb, rfl, hb, e22⟩
        obtain rfl : bb = true := hb.2 rfl
        (((first | refine M_pick_t rfl ?_ | refine M_pick_f rfl ?_); (first | refine M_bool rfl ?_ | refine W_move ?_))
         <;> (refine M_assign ?_; (first | refine M_bool rfl ?_ | refine W_move ?_))
         <;> refine W_nil ?_)
        repeat' first | refine nx ?_ | refine C_cond_t rfl ?_ | refine C_cond_f rfl ?_ | refine Q_block_on rfl ?_
        exact fin_ret1 rfl ⟨rfl, (k016.trans ke1).trans e22⟩
    · refine D_E rfl ?_
      (refine W_yes rfl ?_; refine W_buildSlice (out := [strV [112], strV nm, .int .i64 2, f0, f1, f2, f3, f4]) rfl (by omega) (by kernel_rfl) (fun w17 m17 => ?_))
      have z17 := m17.size
      have e17 := ep.trans m17.keep
      have o17 := m17.own (n := 1) (size := 8) rfl (by decide) (Nat.le_refl _)
      refine W_nil ⟨Ext wd, fun _ e => e, e17, ?_⟩
      refine D_E rfl ?_
      (refine W_yes rfl ?_; refine W_buildSlice (out := []) rfl (by omega) (by kernel_rfl) (fun w12 m12 => ?_))
      have z12 := m12.size
      have e12 := e17.trans m12.keep
      have o12 := m12.own (n := 0) (size := 8) rfl (by decide) e17.size
      refine W_nil ⟨Ext wd, fun _ e => e, e12, ?_⟩
      refine D_E rfl ?_
      (refine W_yes rfl ?_; refine W_append (ok := anyB) (v := .slice (some ⟨w17.heap.size, 0, none⟩) 0 0) (sv := .slice ra reqs.length rc) rfl rfl (o12) ((SR.ext kd).ext e12) (by omega) rfl hRl hRo (by omega) (by omega) (by have := e12.size; omega) (fun v15 w15 a15 => ?_))
      have o15 := a15.own
      have e15 : Ext wd w15 := e12.keep a15.keep fun y hy => (own_in (o12) (Option.mem_toList.1 hy)).1
      refine W_nil ⟨Ext wd, fun _ e => e, e15, ?_⟩
      have q17 := ownsRow_keep (ownsRow_ext o17 m12.keep) a15.keep (fun g hg => by cases hg; simp [Value.ownBlock]; omega)
      refine D_E rfl ?_
      (refine W_yes rfl ?_; refine W_append (ok := anyB) (v := v15) (sv := .slice (some ⟨wp.heap.size, 0, none⟩) 1 1) rfl rfl (o15) (Sl_of_own (q17) fun _ _ => trivial) (by omega) rfl rfl oneW (by omega) (by omega) (by have := e15.size; omega) (fun v18 w18 a18 => ?_))
      have o18 := a18.own
      have e18 : Ext wd w18 := e15.keep a18.keep fun y hy => (own_in (o15) (Option.mem_toList.1 hy)).1
      refine W_nil ⟨Ext wd, fun _ e => e, e18, ?_⟩
      refine D_E rfl ?_
      rw [Nat.zero_add, List.nil_append] at o18
      have hL18 : RsAt reqR anyB w18 LR reqs := (FR.ext kd).ext e18
      (refine W_yes rfl ?_; refine W_call (sameReqs_ok w18 t1 v18 _ _ ((ft1.ext kd).ext e18) (two_apps o18 hL18 (wantR_fits ((fF.ext kd).ext e18)))) rfl ?_)
      rintro _ w19 ⟨bb, rfl, hb, k19⟩
      obtain rfl : bb = true := hb.2 (by rw [← hreqs]; rfl)
      have e19 := e18.trans k19
      refine W_nil ⟨Ext wd, fun _ e => e, e19, ?_⟩
      ((apply D_R rfl rfl; (intro W hW; ((first | refine M_pick_t rfl ?_ | refine M_pick_f rfl ?_); (first | refine M_bool rfl ?_ | refine W_move ?_)); exact W_nil ⟨rfl, rfl, rfl⟩))
       <;> (apply D_R rfl rfl; (intro W hW; (refine M_assign ?_; (first | refine M_bool rfl ?_ | refine W_move ?_)); exact W_nil ⟨rfl, rfl, rfl⟩))
       <;> refine D_nil ?_)
      repeat' first | refine nx ?_ | refine C_cond_t rfl ?_ | refine C_cond_f rfl ?_ | refine Q_block_on rfl ?_
      have ke := kd.trans e19
      have bX9 := bX.keep ke (by simp)
      have bR9 := bR.keep ke (by simp)
      (refine C_region ?_
       <;> (first | refine M_int rfl ?_ | refine W_move ?_)
       <;> (refine W_eql rfl rfl (fun hc => ?_) (fun hc => ?_) <;> try (exfalso; omega))
       <;> (first | refine M_bool rfl ?_ | refine W_move ?_)
       <;> (first | refine W_no rfl ?_ | (refine W_yes rfl ?_; (first | refine W_load_aggB rfl (by assumption) (by rfl) ?_ | refine W_load_agg rfl (by rfl) (Blk.cells (by assumption)) ?_)))
       <;> (first | refine W_no rfl ?_ | (refine W_yes rfl ?_; (first | refine W_load_aggB rfl (by assumption) (by rfl) ?_ | refine W_load_agg rfl (by rfl) (Blk.cells (by assumption)) ?_)))
       <;> (first | refine W_no rfl ?_ | (refine W_yes rfl ?_; refine W_build (by rfl) (by rfl) ?_)))
      -- at operation 6: <dst=(some 160) op=(call <callee=(value (func 28)) args=[(tmp 157), (tmp 159)] argTypes=[43, 43]>) type=4 guard=(some [2, true])>
      (refine W_yes rfl ?_; refine W_call (sameEdit_ok w19 [x0, x1, x2, x3, x4, x5, x6, x7, x8] [.int .i64 1, strV [112], strV nm, .int .i64 2, f0, f1, f2, f3, f4] ⟨1, wantR nm f⟩ ⟨1, wantR nm f⟩ (edtR.ext fX ke) ⟨_, rfl, wantR_fits (fF.ext ke)⟩) rfl ?_)
      rintro _ w20 ⟨bb, rfl, hb, e20⟩
      obtain rfl : bb = true := hb.2 rfl
      have ke0 := ke.trans e20
      have bY20 := bY.keep ke0 (by simp)
      have bR20 := bR.keep ke0 (by simp)
      (((first | refine M_pick_t rfl ?_ | refine M_pick_f rfl ?_); (first | refine M_bool rfl ?_ | refine W_move ?_))
       <;> (first | refine M_bool rfl ?_ | refine W_move ?_)
       <;> (first | refine W_no rfl ?_ | (refine W_yes rfl ?_; (first | refine M_int rfl ?_ | refine W_move ?_)))
       <;> (first | refine W_no rfl ?_ | (refine W_yes rfl ?_; (refine W_eql rfl rfl (fun hc => ?_) (fun hc => ?_) <;> try (exfalso; omega))))
       <;> ((first | refine M_pick_t rfl ?_ | refine M_pick_f rfl ?_); (first | refine M_bool rfl ?_ | refine W_move ?_))
       <;> (first | refine M_bool rfl ?_ | refine W_move ?_)
       <;> (first | refine W_no rfl ?_ | (refine W_yes rfl ?_; (first | refine W_load_aggB rfl (by assumption) (by rfl) ?_ | refine W_load_agg rfl (by rfl) (Blk.cells (by assumption)) ?_)))
       <;> (first | refine W_no rfl ?_ | (refine W_yes rfl ?_; (first | refine W_load_aggB rfl (by assumption) (by rfl) ?_ | refine W_load_agg rfl (by rfl) (Blk.cells (by assumption)) ?_)))
       <;> (first | refine W_no rfl ?_ | (refine W_yes rfl ?_; refine W_build (by rfl) (by rfl) ?_)))
      -- at operation 16: <dst=(some 170) op=(call <callee=(value (func 28)) args=[(tmp 167), (tmp 169)] argTypes=[43, 43]>) type=4 guard=(some [12, true])>
      (refine W_yes rfl ?_; refine W_call (sameEdit_ok w20 [y0, y1, y2, y3, y4, y5, y6, y7, y8] [.int .i64 3, strV [112], strV nm, .int .i64 2, f0, f1, f2, f3, f4] ⟨3, wantR nm f⟩ ⟨3, wantR nm f⟩ (edtR.ext fY ke0) ⟨_, rfl, wantR_fits (fF.ext ke0)⟩) rfl ?_)
      rintro _ w21 ⟨bb, rfl, hb, e21⟩
      obtain rfl : bb = true := hb.2 rfl
      have ke1 := ke0.trans e21
      have bZ21 := bZ.keep ke1 (by simp)
      (((first | refine M_pick_t rfl ?_ | refine M_pick_f rfl ?_); (first | refine M_bool rfl ?_ | refine W_move ?_))
       <;> (refine M_assign ?_; (first | refine M_bool rfl ?_ | refine W_move ?_))
       <;> refine W_nil ?_)
      repeat' first | refine nx ?_ | refine C_cond_t rfl ?_ | refine C_cond_f rfl ?_ | refine Q_block_on rfl ?_
      (refine C_region ?_
       <;> (first | refine M_bool rfl ?_ | refine W_move ?_)
       <;> (first | refine M_bool rfl ?_ | refine W_move ?_)
       <;> (first | refine W_no rfl ?_ | (refine W_yes rfl ?_; (first | refine M_bool rfl ?_ | refine W_move ?_)))
       <;> ((first | refine M_pick_t rfl ?_ | refine M_pick_f rfl ?_); (first | refine M_bool rfl ?_ | refine W_move ?_))
       <;> (first | refine M_bool rfl ?_ | refine W_move ?_)
       <;> (first | refine W_no rfl ?_ | (refine W_yes rfl ?_; (first | refine M_bool rfl ?_ | refine W_move ?_)))
       <;> ((first | refine M_pick_t rfl ?_ | refine M_pick_f rfl ?_); (first | refine M_bool rfl ?_ | refine W_move ?_))
       <;> (first | refine M_bool rfl ?_ | refine W_move ?_)
       <;> (first | refine W_no rfl ?_ | (refine W_yes rfl ?_; (first | refine M_int rfl ?_ | refine W_move ?_)))
       <;> (first | refine W_no rfl ?_ | (refine W_yes rfl ?_; (refine W_eql rfl rfl (fun hc => ?_) (fun hc => ?_) <;> try (exfalso; omega))))
       <;> ((first | refine M_pick_t rfl ?_ | refine M_pick_f rfl ?_); (first | refine M_bool rfl ?_ | refine W_move ?_))
       <;> (first | refine M_bool rfl ?_ | refine W_move ?_)
       <;> (first | refine W_no rfl ?_ | (refine W_yes rfl ?_; (first | refine W_load_aggB rfl (by assumption) (by rfl) ?_ | refine W_load_agg rfl (by rfl) (Blk.cells (by assumption)) ?_)))
       <;> (first | refine W_no rfl ?_ | (refine W_yes rfl ?_; (first | refine M_str rfl ?_ | refine W_move ?_)))
       <;> (first | refine W_no rfl ?_ | (refine W_yes rfl ?_; refine W_build (by rfl) (by rfl) ?_))
       <;> (first | refine W_no rfl ?_ | (refine W_yes rfl ?_; refine W_build (by rfl) (by rfl) ?_)))
      -- at operation 16: <dst=(some 188) op=(call <callee=(value (func 28)) args=[(tmp 184), (tmp 187)] argTypes=[43, 43]>) type=4 guard=(some [11, true])>
      (refine W_yes rfl ?_; refine W_call (sameEdit_ok w21 [z0, z1, z2, z3, z4, z5, z6, z7, z8] [.int .i64 2, strV [], strV nm, .int .i64 0, .int .i64 0, strV [], .int .i64 0, .int .i64 0, .slice none 0 0] ⟨2, ⟨[], nm, 0, zeroF⟩⟩ ⟨2, ⟨[], nm, 0, zeroF⟩⟩ (edtR.ext fZ ke1) ⟨_, rfl, _, rfl, rfl, FAt.leaf _ _ _ _ _ _⟩) rfl ?_)
      rintro _ w22 ⟨bb, rfl, hb, e22⟩
      obtain rfl : bb = true := hb.2 rfl
      (((first | refine M_pick_t rfl ?_ | refine M_pick_f rfl ?_); (first | refine M_bool rfl ?_ | refine W_move ?_))
       <;> (refine M_assign ?_; (first | refine M_bool rfl ?_ | refine W_move ?_))
       <;> refine W_nil ?_)
      repeat' first | refine nx ?_ | refine C_cond_t rfl ?_ | refine C_cond_f rfl ?_ | refine Q_block_on rfl ?_
      exact fin_ret1 rfl ⟨rfl, (k016.trans ke1).trans e22⟩
end Go.Proofs.YtmnhnbpnjepkbaaGreatDoor

namespace Go.Proofs.YtmnhnbpnjepkbaaGreatDoor
open Go.ChangeShapes Go.WideShapes Go.ChangeAt Go.RowKit
open Go.ChangeMaps (open_string)

section
variable {H : Type} {enc : TypeId × Value → H} {P : Program} {W W' : World}

theorem sameAt_ext (he : Ext W W') {p : MemPlace} (hp : p.block < W.heap.size) : W.sameAt W' p := by
  cases p with
  | cell b off => exact World.cell?_of_block (w := W) (a := ⟨b, off, none⟩) (he.block b hp (by simp))
  | map b => exact he.block b hp (by simp)

theorem trodAll_ext (K : Kids P (· < P.types.size)) (hz : ∀ t e, t < P.types.size → P.underlying t = some (.slice e) → 0 < P.cellsOf e) (he : Ext W W') {sp : Nat → Bool} :
    ∀ {ts : List TypeId} {vs : List Value} {ds : List (DataW H)} {ps : List MemPlace}, (∀ t ∈ ts, t < P.types.size) → DataW.TrodAll enc P W 0 (fun _ => true) true ts vs ds ps →
      (∀ p ∈ ps, p.block < W.heap.size) → (∀ p ∈ ps, sp p.block = true) → DataW.TrodAll enc P W' 0 sp true ts vs ds ps
  | [], [], [], _, _, h, _, _ => h
  | _ :: _, _ :: _, _ :: _, _, hT, ⟨p, q, ⟨n, h1⟩, h2, e⟩, hl, hs => by
    subst e
    refine ⟨p, q, ⟨n, DataW.trod_stays K (fun ht hu => hz _ _ ht hu) (fun h => by cases h) (hT _ (by simp)) h1 (fun x hx => sameAt_ext he (hl x (List.mem_append_left _ hx))) fun x hx => hs x (List.mem_append_left _ hx)⟩, ?_, rfl⟩
    exact trodAll_ext K hz he (fun t ht => hT t (List.mem_cons_of_mem _ ht)) h2 (fun x hx => hl x (List.mem_append_right _ hx)) fun x hx => hs x (List.mem_append_right _ hx)

theorem keptBut_ext (he : Ext W W') (may : MemPlace → Prop) : W.keptBut W' may := by
  refine ⟨he.os, he.output, fun i hi => ?_⟩
  rw [he.block i hi (by simp)]
  exact (World.keptBut_refl W may).2.2 i hi

/-- a law that answers true in a world where all is as it was -/
theorem post_of_ext (K : Kids P (· < P.types.size)) (hz : ∀ t e, t < P.types.size → P.underlying t = some (.slice e) → 0 < P.cellsOf e) {f : Func} {s : ChangeSpec} {apart fresh handsOn : Bool} {args : Array Value} {v : Value} {ds gs : List (DataW H)} {before : List MemPlace} {tb : TypeId}
    (hts : ∀ t ∈ f.params.toList, t < P.types.size) (hs : s.vars = []) (hW : DataW.Whole enc P f.params.toList s.vars apart W args.toList ds gs before)
    (hfn : s.fn H (ds ++ gs) = { results := [.lit (.bool true)], args := ds }) (hrt : f.resultTypes = #[tb]) (htb : P.underlying tb = some .bool) (hv : v = .bool true) (he : Ext W W') :
    s.post enc P f apart fresh handsOn false W args v W' := by
  subst hv
  have hlt : ∀ p ∈ before, p.block < W.heap.size := hW.lt
  obtain ⟨p, q, hA, hV, rfl, hf, hn⟩ := id hW
  have hq : gs = [] ∧ q = [] := by
    rw [hs] at hV
    cases gs with
    | nil => exact ⟨rfl, hV⟩
    | cons _ _ => exact hV.elim
  obtain ⟨rfl, rfl⟩ := hq
  refine ⟨ds, [], _, [], p, [], hW, ?_, ?_, ?_, keptBut_ext he _, (fun h => by cases h)⟩
  · rw [hfn, hrt]
    exact trodAll_cons_mk (shut_bool htb true) trodAll_mk0
  · rw [hfn]
    exact trodAll_ext K hz he hts hA (fun x hx => hlt x (List.mem_append_left _ hx)) fun x hx => by simpa using hlt x (List.mem_append_left _ hx)
  · rw [hfn, hs]; exact rfl
end

theorem kids : Kids Tryz.prog (· < Tryz.prog.types.size) := kids_rows (by kernel_rfl) (by kernel_rfl)
theorem full : ∀ t e, t < Tryz.prog.types.size → Tryz.prog.underlying t = some (.slice e) → 0 < Tryz.prog.cellsOf e := slices_full_of Tryz.prog (by kernel_rfl)
theorem own : ownKnob Tryz.prog.godebug = none := by kernel_rfl

section
variable {H : Type} {enc : TypeId × Value → H} {P : Program} {W : World} {sp : Nat → Bool} {hd : Bool}
theorem spot_none {a : Addr} {v : Value} (h : W.cell? a = some v) : a.spot = none := by
  cases ha : a.spot with
  | none => rfl
  | some _ =>
    unfold World.cell? at h
    split at h
    · simp [ha] at h
    · cases h

theorem val_one {r : Reach} {t e : TypeId} {v u : Value} {b : Nat} (ht : P.underlying t = some (.slice e)) (hval : Value.okWide P W r b t v) (h : v.cells.toList = [u]) : v = u := by
  obtain ⟨a, l, c, rfl⟩ := okWide_slice ht hval
  simpa [Value.cells] using h
end
set_option maxRecDepth 100000 in
/-- a law's step: what is left is its walk -/
theorem law_lifted {os : Os} (started : os.Started) {k : FuncId} {fn : Func} {s : ChangeSpec} {conds : List PathCond} {fresh : Bool} {H : Type} {enc : TypeId × Value → H} (noInit : Tryz.prog.inits.idxOf? k = none) (hfn : Tryz.prog.funcs[k]? = some fn)
    (witness : ∃ (w : World) (tape : Tape) (i : Input), w.os = os ∧ (w.forCall tape i).Shaped Tryz.prog ∧ i.vars = [] ∧ Input.okWide Tryz.prog (w.forCall tape i) .any w.heap.size k i ∧
      s.pre6 enc Tryz.prog fn conds false (w.forCall tape i).memory i.args ∧ ({} : Assume).holds Tryz.prog (lone (Frame.enter Tryz.prog k i.args .normal) [] (w.forCall tape i)))
    (hs : s.vars = []) (hts : (fn.params.toList.all fun t => decide (t < Tryz.prog.types.size)) = true) (hrt : fn.resultTypes = #[4])
    (hspec : ∀ ds : List (DataW H), ds.length = fn.params.toList.length → s.fn H ds = { results := [.lit (.bool true)], args := ds })
    (law : ∀ (W : World) (base : Nat) (args : List Value) (ds : List (DataW H)) (p : List MemPlace), (∀ (j : Nat) t v, fn.params.toList[j]? = some t → args[j]? = some v → Value.okWide Tryz.prog W .any base t v) →
      DataW.TrodAll enc Tryz.prog W 0 (fun _ => true) true fn.params.toList args ds p → Fn Tryz.prog k args W fun v w' => v = .bool true ∧ Ext W w') :
    ReturnsInHanded {} Tryz.checked os k .any (s.pre6 enc Tryz.prog fn conds false) (s.post enc Tryz.prog fn false fresh false false) := by
  refine returnsInHanded_of_change (C := Tryz.checked) own started noInit hfn witness ?_
  intro W base args ds gs before hval hW _ _
  have hW' := hW
  obtain ⟨p, q, hA, hV, rfl, hf, hn⟩ := hW
  have hg : gs = [] := by
    rw [hs] at hV
    cases gs with
    | nil => rfl
    | cons _ _ => exact hV.elim
  subst hg
  have hlen : ∀ {ts : List TypeId} {vs : List Value} {ds : List (DataW H)} {ps : List MemPlace}, DataW.TrodAll enc Tryz.prog W 0 (fun _ => true) true ts vs ds ps → ds.length = ts.length := by
    intro ts
    induction ts with
    | nil => intro vs ds ps h; obtain ⟨rfl, rfl, rfl⟩ := trodAll_nil h; rfl
    | cons t ts ih => intro vs ds ps h; obtain ⟨v, vs1, d, ds1, a, b, rfl, rfl, rfl, h1, h2⟩ := trodAll_cons h; simp [ih h2]
  refine Calls.mono (law W base args.toList ds p (fun j t v h1 h2 => hval j t v (Array.getElem?_toList.symm.trans h1) (Array.getElem?_toList.symm.trans h2)) hA) fun e W' he => ?_
  cases e with
  | returned v =>
    refine ⟨v, rfl, post_of_ext kids full (fun t ht => of_decide_eq_true (List.all_eq_true.1 hts t ht)) hs hW' ?_ hrt Tryz.underlying4 he.1 he.2⟩
    rw [List.append_nil]; exact hspec ds (hlen hA)
  | panicked ch => exact he.elim
  | outgrown => exact he.elim

end Go.Proofs.YtmnhnbpnjepkbaaGreatDoor

namespace Go.Proofs.YtmnhnbpnjepkbaaGreatDoor
open Go.ChangeShapes Go.WideShapes Go.ChangeAt Go.RowKit
set_option linter.unusedVariables false

section
variable {H : Type} {enc : TypeId × Value → H} {P : Program} {w : World} {base : Nat} {sp : Nat → Bool} {held : Bool}
theorem trod_arr {fuel : Nat} {t e : TypeId} {n c : Nat} {cs : List Value} {ds : List (DataW H)} {p : List MemPlace} (ht : P.underlying t = some (.array n e)) (hce : P.cellsOf e = c) (hct : P.cellsOf t = n * c)
    (h : DataW.trod enc P w base sp held fuel t cs = some (.agg ds, p)) : cs.length = n * c ∧ ∃ m, ∀ i, i < n → ∃ d q, ds[i]? = some d ∧ DataW.trod enc P w base sp held m e ((cs.drop (i * c)).take c) = some (d, q) := by
  cases fuel with
  | zero => simp [DataW.trod] at h
  | succ fuel =>
    simp only [DataW.trod, ht, hce, hct] at h
    split at h
    · rename_i hl
      obtain ⟨xs, hm, hx⟩ := Option.map_eq_some_iff.1 h
      have hxs : xs.map (·.1) = ds := by
        have := congrArg Prod.fst hx
        simpa using this
      refine ⟨hl, fuel, fun i hi => ?_⟩
      obtain ⟨b, hb, hf⟩ := Lib.mapM_at hm i i (by simp [hi])
      exact ⟨b.1, b.2, by rw [← hxs, List.getElem?_map, hb]; rfl, hf⟩
    · cases h
end

def spanD (p : Nat × Nat × Nat) : DataW Unit := .agg [.lit (.int .u8 (p.1 : Int)), .lit (.int .u8 (p.2.1 : Int)), .lit (.int .i64 (p.2.2 : Int))]
theorem cell_of_piece {cs out : List Value} {c i r : Nat} {v : Value} (h : (cs.drop (i * c)).take c = out) (hv : out[r]? = some v) : cs[i * c + r]? = some v := by
  subst h
  rw [List.getElem?_take] at hv
  split at hv
  · rwa [List.getElem?_drop] at hv
  · cases hv

theorem len3 {cs : List Value} (h : cs.length = 3) : ∃ c0 c1 c2, cs = [c0, c1, c2] := by
  match cs, h with
  | [a, b, c], _ => exact ⟨a, b, c, rfl⟩
theorem span_piece {w : World} {fuel : Nat} {cs : List Value} {p : Nat × Nat × Nat} {q : List MemPlace} (h : DataW.trod (fun _ => ()) Tryz.prog w 0 (fun _ => true) false fuel 123 cs = some (spanD p, q)) : cs = spanC1 p := by
  have hc : Tryz.prog.cellsOf 123 = 3 := by kernel_rfl
  have h8 : Tryz.prog.cellsOf 5 = 1 := by kernel_rfl
  have hi : Tryz.prog.cellsOf 3 = 1 := by kernel_rfl
  obtain ⟨xs, n, _, hx, hcl, hxl, hf⟩ := DataW.trod_struct Tryz.underlying123 h
  rw [hc] at hcl
  obtain ⟨c0, c1, c2, rfl⟩ := len3 hcl
  have f0 : DataW.trod (fun _ => ()) Tryz.prog w 0 (fun _ => true) false n 5 ((List.drop 0 [c0, c1, c2]).take (Tryz.prog.cellsOf 5)) = xs[0]? := hf 0 _ rfl
  have f1 : DataW.trod (fun _ => ()) Tryz.prog w 0 (fun _ => true) false n 5 ((List.drop 1 [c0, c1, c2]).take (Tryz.prog.cellsOf 5)) = xs[1]? := hf 1 _ rfl
  have f2 : DataW.trod (fun _ => ()) Tryz.prog w 0 (fun _ => true) false n 3 ((List.drop 2 [c0, c1, c2]).take (Tryz.prog.cellsOf 3)) = xs[2]? := hf 2 _ rfl
  have hx3 : xs.length = 3 := hxl
  rw [h8] at f0 f1
  rw [hi] at f2
  have g0 : xs[0]? = some xs[0] := List.getElem?_eq_getElem (by omega)
  have g1 : xs[1]? = some xs[1] := List.getElem?_eq_getElem (by omega)
  have g2 : xs[2]? = some xs[2] := List.getElem?_eq_getElem (by omega)
  obtain ⟨a, ha, ha', _⟩ := DataW.trod_int Tryz.underlying5 (f0.trans g0)
  obtain ⟨b, hb, hb', _⟩ := DataW.trod_int Tryz.underlying5 (f1.trans g1)
  obtain ⟨c, hc2, hc', _⟩ := DataW.trod_int Tryz.underlying3 (f2.trans g2)
  have hd : xs.map (·.1) = [.lit (.int .u8 (p.1 : Int)), .lit (.int .u8 (p.2.1 : Int)), .lit (.int .i64 (p.2.2 : Int))] := by
    have := congrArg Prod.fst hx
    simpa [spanD] using this.symm
  have e0 := congrArg (·[0]?) hd
  have e1 := congrArg (·[1]?) hd
  have e2 := congrArg (·[2]?) hd
  simp [g0, ha'] at e0
  simp [g1, hb'] at e1
  simp [g2, hc'] at e2
  simp at ha hb hc2
  rw [ha, hb, hc2, e0, e1, e2]
  try rfl
theorem sym_piece {w : World} {fuel : Nat} {cs : List Value} {l : List UInt8} {q : List MemPlace} (h : DataW.trod (fun _ => ()) Tryz.prog w 0 (fun _ => true) false fuel 9 cs = some (.lit (.string l), q)) : cs = [strV l] := by
  obtain ⟨s, rfl, hx, _⟩ := DataW.trod_string Tryz.underlying9 h
  have := congrArg Prod.fst hx
  simp at this
  rw [this]

def laidL : List (String × DataW Unit) := [("math/bits.deBruijn32tab", Rows.laid_math_bits_deBruijn32tab), ("math/bits.deBruijn64tab", Rows.laid_math_bits_deBruijn64tab), ("internal/strconv.uint64pow10", Rows.laid_internal_strconv_uint64pow10), ("strconv.ErrRange", Rows.laid_strconv_ErrRange), ("strconv.ErrSyntax", Rows.laid_strconv_ErrSyntax), ("foresight/signal.keys", Rows.laid_foresight_signal_keys), ("foresight/lexer.spans", Rows.laid_foresight_lexer_spans), ("foresight/lexer.symbols", Rows.laid_foresight_lexer_symbols)]
theorem gk_of_laid {W : World} (h : laidMetH Tryz.prog laidL W) : GK W := by
  have h' : laidMet Tryz.prog laidL W := h
  obtain ⟨ps, ⟨g1, t1, cs1, fu1, p1, q1, hg1, ht1, hv1, hd1, ⟨g2, t2, cs2, fu2, p2, q2, hg2, ht2, hv2, hd2, ⟨g3, t3, cs3, fu3, p3, q3, hg3, ht3, hv3, hd3, ⟨g4, t4, cs4, fu4, p4, q4, hg4, ht4, hv4, hd4, ⟨g5, t5, cs5, fu5, p5, q5, hg5, ht5, hv5, hd5, ⟨g6, t6, cs6, fu6, p6, q6, hg6, ht6, hv6, hd6, ⟨g7, t7, cs7, fu7, p7, q7, hg7, ht7, hv7, hd7, ⟨g8, t8, cs8, fu8, p8, q8, hg8, ht8, hv8, hd8, _, _⟩, _⟩, _⟩, _⟩, _⟩, _⟩, _⟩, _⟩, _⟩ := h'
  have n2 : Tryz.prog.globalNamed "math/bits.deBruijn64tab" = some 7 := by kernel_rfl
  have n6 : Tryz.prog.globalNamed "foresight/signal.keys" = some 0 := by kernel_rfl
  have n7 : Tryz.prog.globalNamed "foresight/lexer.spans" = some 1 := by kernel_rfl
  have n8 : Tryz.prog.globalNamed "foresight/lexer.symbols" = some 2 := by kernel_rfl
  have y6 : (Tryz.prog.globals[0]?).map (·.type) = some 103 := by kernel_rfl
  have y7 : (Tryz.prog.globals[1]?).map (·.type) = some 124 := by kernel_rfl
  have y8 : (Tryz.prog.globals[2]?).map (·.type) = some 133 := by kernel_rfl
  obtain rfl := Option.some.inj (n6.symm.trans hg6)
  obtain rfl := Option.some.inj (n7.symm.trans hg7)
  obtain rfl := Option.some.inj (n8.symm.trans hg8)
  obtain rfl := Option.some.inj (y6.symm.trans ht6)
  obtain rfl := Option.some.inj (y7.symm.trans ht7)
  obtain rfl := Option.some.inj (y8.symm.trans ht8)
  refine ⟨⟨?_, ?_, ?_⟩, ?_⟩
  · obtain ⟨hl, m, hp⟩ := trod_arr (ds := spansL.map spanD) Tryz.underlying124 (by kernel_rfl : Tryz.prog.cellsOf 123 = 3) (by kernel_rfl) hd7
    intro j u hu
    have hj : j < 48 := (List.getElem?_eq_some_iff.1 hu).1
    obtain ⟨p, hsp⟩ : ∃ p, spansL[j / 3]? = some p := ⟨_, List.getElem?_eq_getElem (by show j / 3 < 16; omega)⟩
    obtain ⟨d, q, hd, ht⟩ := hp (j / 3) (by omega)
    rw [List.getElem?_map, hsp] at hd
    cases hd
    have e1 := span_piece ht
    have e2 := spanC_at spansL (j / 3) p hsp
    obtain ⟨v, hr⟩ : ∃ v, (spanC1 p)[j % 3]? = some v := ⟨_, List.getElem?_eq_getElem (by show j % 3 < 3; omega)⟩
    have c1 := cell_of_piece e1 hr
    have c2 := cell_of_piece e2 hr
    rw [show j / 3 * 3 + j % 3 = j by omega] at c1 c2
    have hu' : (spansL.flatMap spanC1)[j]? = some u := hu
    rw [c2] at hu'
    rw [Nat.zero_add, World.var?_cell n7 hv7 j]
    rw [← hu', ← c1]
    simp
  · obtain ⟨hl, m, hp⟩ := trod_arr (ds := symsL.map fun l => .lit (.string l)) Tryz.underlying133 (by kernel_rfl : Tryz.prog.cellsOf 9 = 1) (by kernel_rfl) hd8
    intro j u hu
    have hj : j < 15 := (List.getElem?_eq_some_iff.1 hu).1
    obtain ⟨p, hsp⟩ : ∃ p, symsL[j]? = some p := ⟨_, List.getElem?_eq_getElem hj⟩
    obtain ⟨d, q, hd, ht⟩ := hp j hj
    rw [List.getElem?_map, hsp] at hd
    cases hd
    have c1 := cell_of_piece (r := 0) (sym_piece ht) rfl
    have hu' : (symsL.map strV)[j]? = some u := hu
    rw [List.getElem?_map, hsp] at hu'
    cases hu'
    rw [Nat.zero_add, World.var?_cell n8 hv8 j]
    simpa using c1
  · have hv := hv2
    simp only [World.var?, n2, Option.bind_some] at hv
    split at hv
    · rename_i e
      have := (Array.getElem?_eq_some_iff.1 e).1
      omega
    · cases hv
  · obtain ⟨hl, m, hp⟩ := trod_arr (ds := keysL.map fun l => .lit (.string l)) Tryz.underlying103 (by kernel_rfl : Tryz.prog.cellsOf 9 = 1) (by kernel_rfl) hd6
    intro j u hu
    have hj : j < 10 := (List.getElem?_eq_some_iff.1 hu).1
    obtain ⟨p, hsp⟩ : ∃ p, keysL[j]? = some p := ⟨_, List.getElem?_eq_getElem hj⟩
    obtain ⟨d, q, hd, ht⟩ := hp j hj
    rw [List.getElem?_map, hsp] at hd
    cases hd
    have c1 := cell_of_piece (r := 0) (sym_piece ht) rfl
    have hu' : (keysL.map strV)[j]? = some u := hu
    rw [List.getElem?_map, hsp] at hu'
    cases hu'
    rw [Nat.zero_add, World.var?_cell n6 hv6 j]
    simpa using c1

set_option maxRecDepth 100000 in
/-- a law's step: what is left is its walk, from a world where the listed variables hold what is listed -/
theorem law_liftedL {os : Os} (started : os.Started) {k : FuncId} {fn : Func} {s : ChangeSpec} {conds : List PathCond} {fresh : Bool} {H : Type} {enc : TypeId × Value → H} (F : Stop.Interp) (noInit : Tryz.prog.inits.idxOf? k = none) (hfn : Tryz.prog.funcs[k]? = some fn)
    (witness : ∃ (w : World) (tape : Tape) (i : Input), w.os = os ∧ (w.forCall tape i).Shaped Tryz.prog ∧ i.vars = [] ∧ Input.okWide Tryz.prog (w.forCall tape i) .any w.heap.size k i ∧
      (OpenSpec.ofChange s).preRow enc Tryz.prog fn conds false laidL (w.forCall tape i).memory i.args ∧ ({} : Assume).holds Tryz.prog (lone (Frame.enter Tryz.prog k i.args .normal) [] (w.forCall tape i)))
    (hs : s.vars = []) (hts : (fn.params.toList.all fun t => decide (t < Tryz.prog.types.size)) = true) (hrt : fn.resultTypes = #[4])
    (hspec : ∀ ds : List (DataW H), ds.length = fn.params.toList.length → s.fn H ds = { results := [.lit (.bool true)], args := ds })
    (law : ∀ (W : World) (base : Nat) (args : List Value) (ds : List (DataW H)) (p : List MemPlace), (∀ (j : Nat) t v, fn.params.toList[j]? = some t → args[j]? = some v → Value.okWide Tryz.prog W .any base t v) →
      DataW.TrodAll enc Tryz.prog W 0 (fun _ => true) true fn.params.toList args ds p → GK W → Fn Tryz.prog k args W fun v w' => v = .bool true ∧ Ext W w') :
    ReturnsInHanded {} Tryz.checked os k .any ((OpenSpec.ofChange s).preRow enc Tryz.prog fn conds false laidL) (((OpenSpec.ofChange s).at F).post enc Tryz.prog fn false fresh false false) := by
  refine returnsInHanded_of_row (C := Tryz.checked) (s := OpenSpec.ofChange s) own started noInit hfn witness ?_
  intro W base args ds gs before hval hW _ _ _ hL _ _
  have hW' : DataW.Whole enc Tryz.prog fn.params.toList s.vars false W args.toList ds gs before := hW
  obtain ⟨p, q, hA, hV, rfl, hf, hn⟩ := hW
  have hg : gs = [] := by
    have hV' : DataW.TrodVars enc Tryz.prog W (fun _ => true) s.vars gs q := hV
    rw [hs] at hV'
    cases gs with
    | nil => rfl
    | cons _ _ => exact hV'.elim
  subst hg
  have hlen : ∀ {ts : List TypeId} {vs : List Value} {ds : List (DataW H)} {ps : List MemPlace}, DataW.TrodAll enc Tryz.prog W 0 (fun _ => true) true ts vs ds ps → ds.length = ts.length := by
    intro ts
    induction ts with
    | nil => intro vs ds ps h; obtain ⟨rfl, rfl, rfl⟩ := trodAll_nil h; rfl
    | cons t ts ih => intro vs ds ps h; obtain ⟨v, vs1, d, ds1, a, b, rfl, rfl, rfl, h1, h2⟩ := trodAll_cons h; simp [ih h2]
  refine Calls.mono (law W base args.toList ds p (fun j t v h1 h2 => hval j t v (Array.getElem?_toList.symm.trans h1) (Array.getElem?_toList.symm.trans h2)) hA (gk_of_laid hL)) fun e W' he => ?_
  cases e with
  | returned v =>
    refine ⟨v, rfl, post_of_ext kids full (fun t ht => of_decide_eq_true (List.all_eq_true.1 hts t ht)) hs hW' ?_ hrt Tryz.underlying4 he.1 he.2⟩
    rw [List.append_nil]; exact hspec ds (hlen hA)
  | panicked ch => exact he.elim
  | outgrown => exact he.elim

def layC (cs : List Value) : Obj → Obj
  | .cells _ t frozen => .cells cs.toArray t frozen
  | o => o
def tabC : DataW Unit → List Value
  | .agg l => l.map fun d => match d with | .lit (.int k z) => .int k z | _ => .bool false
  | _ => []
/-- a world for the witness -/
noncomputable def laidWorld (os : Os) : World :=
  let w := World.holding Tryz.prog os ⟨#[.cells #[strV [118, 97, 108, 117, 101, 32, 111, 117, 116, 32, 111, 102, 32, 114, 97, 110, 103, 101]] 162, .cells #[strV [105, 110, 118, 97, 108, 105, 100, 32, 115, 121, 110, 116, 97, 120]] 162], #[], []⟩
  { w with heap := ((((((((w.heap.modify 1 (layC spanC)).modify 2 (layC symC)).modify 0 (layC keyC)).modify 4 (layC [.iface 160 (.pointer (some ⟨13, 0, none⟩))])).modify 3 (layC [.iface 160 (.pointer (some ⟨14, 0, none⟩))])).modify 5 (layC (tabC Rows.laid_internal_strconv_uint64pow10))).modify 6 (layC (tabC Rows.laid_math_bits_deBruijn32tab))).modify 7 (layC (tabC Rows.laid_math_bits_deBruijn64tab))) }
theorem laidLow (os : Os) : (World.settled Tryz.prog os).heap.size = 13 := by kernel_rfl
end Go.Proofs.YtmnhnbpnjepkbaaGreatDoor

namespace Go.Proofs.YtmnhnbpnjepkbaaGreatDoor
open Go.ChangeShapes Go.WideShapes Go.ChangeAt Go.RowKit
open Go.ChangeMaps (open_string)
set_option linter.unusedVariables false

set_option maxRecDepth 100000 in
theorem ParserSpecs_open {H : Type} {enc : TypeId × Value → H} (W : World) (base : Nat) (args : List Value) (ds : List (DataW H)) (p : List MemPlace) (hval : ∀ (j : Nat) t v, Tryz.f7.params.toList[j]? = some t → args[j]? = some v → Value.okWide Tryz.prog W .any base t v)
    (hA : DataW.TrodAll enc Tryz.prog W 0 (fun _ => true) true Tryz.f7.params.toList args ds p) (hG : GK W) : Fn Tryz.prog 7 args W fun v w' => v = .bool true ∧ Ext W w' := by
  rw [Tryz.params7] at hA hval
  obtain ⟨v0, _, d0, _, p0, q0, rfl, rfl, rfl, h0, r0⟩ := trodAll_cons hA
  obtain ⟨v1, _, d1, _, p1, q1, rfl, rfl, rfl, h1, r1⟩ := trodAll_cons r0
  obtain ⟨v2, _, d2, _, p2, q2, rfl, rfl, rfl, h2, r2⟩ := trodAll_cons r1
  obtain ⟨rfl, rfl, rfl⟩ := trodAll_nil r2
  obtain ⟨s0, rfl, _, _, _⟩ := open_string Tryz.underlying9 (hval 0 _ v0 rfl rfl) h0
  obtain ⟨s1, rfl, _, _, _⟩ := open_string Tryz.underlying9 (hval 1 _ v1 rfl rfl) h1
  obtain ⟨s2, rfl, _, _, _⟩ := open_string Tryz.underlying9 (hval 2 _ v2 rfl rfl) h2
  exact specs_ok W s0.data.toList s1.data.toList s2.data.toList hG

theorem ParserSpecs_laidMet (os : Os) : laidMet Tryz.prog laidL ((laidWorld os).forCall (fun _ _ => 0) ⟨#[], #[.string .empty, .string .empty, .string .empty], []⟩).memory := laidMet_of_run' 8 (by kernel_rfl) (by kernel_rfl)
theorem ParserSpecs_reads (os : Os) {H : Type} (enc : TypeId × Value → H) : ∃ places, DataW.whole enc Tryz.prog ((laidWorld os).forCall (fun _ _ => 0) ⟨#[], #[.string .empty, .string .empty, .string .empty], []⟩).memory Tryz.f7.params.toList Rows.parserSpecsSpec.vars false #[.string .empty, .string .empty, .string .empty].toList 8 = some ([.lit (.string []), .lit (.string []), .lit (.string [])], [], places) := ⟨[], by kernel_rfl⟩
set_option maxRecDepth 100000 in
theorem ParserSpecs_lifted (os : Os) (started : os.Started) (H : Type) (enc : TypeId × Value → H) (F : Stop.Interp) :
    ReturnsInHanded {} Tryz.checked os 7 .any ((OpenSpec.ofChange Rows.parserSpecsSpec).preRow enc Tryz.prog Tryz.f7 Rows.parserSpecsRow.domain false Rows.parserSpecsRow.laid) (((OpenSpec.ofChange Rows.parserSpecsSpec).at F).post enc Tryz.prog Tryz.f7 false true false false) := by
  obtain ⟨places, hx⟩ := ParserSpecs_reads os enc
  exact law_liftedL started F (by kernel_rfl) Tryz.func7
    (witness_row_atRef (enc := enc) (C := Tryz.checked) false (laidWorld os) #[.string .empty, .string .empty, .string .empty] rfl (by kernel_rfl) (by kernel_rfl) (by kernel_rfl)
      (OpenSpec.preRow_of_cond 8 hx (by kernel_rfl) (fun k hk => by cases hk) (by kernel_rfl) (ParserSpecs_laidMet os))) rfl (by kernel_rfl) (by kernel_rfl)
    (fun ds h => by
      match ds, h with
      | [d1, d2, d3], _ => rfl) ParserSpecs_open
theorem ParserSpecs_said : Rows.ParserSpecsSaid :=
  OpenClaim.holds_of_cond 7 Tryz.f7 rfl rfl rfl rfl rfl rfl rfl ⟨rfl, rfl, rfl, rfl, rfl⟩ rfl rfl rfl rfl rfl (by kernel_rfl) Tryz.func7 (by kernel_rfl)
    (of_decide_eq_true (by kernel_rfl)) (by unfold Func.isWrapper; first | (rw [if_pos (by decide +kernel)]; kernel_rfl) | (rw [if_neg (by decide +kernel)]; exact ⟨rfl, rfl⟩))
    (fun os started H enc _ F => by rw [OpenClaim.pre_eq_preRow]; exact ParserSpecs_lifted os started H enc F)
theorem ParserSpecs_plain (f : FuncId) (fn : Func) (hf : Tryz.pinned.checked.prog.funcNamed "foresight/foresightlaw05.ParserSpecs" = some f) (hfn : Tryz.pinned.checked.prog.funcs[f]? = some fn) :
    true = Tryz.pinned.checked.prog.looks [] ∧ ∀ (j : Nat) t, fn.params[j]? = some t → Tryz.pinned.checked.prog.wantsStandIn t = false := by
  obtain rfl : f = 7 := Option.some.inj ((show Tryz.prog.funcNamed "foresight/foresightlaw05.ParserSpecs" = some 7 by kernel_rfl).symm.trans hf) |>.symm
  obtain rfl : fn = Tryz.f7 := (Option.some.inj (Tryz.func7.symm.trans hfn)).symm
  refine ⟨by kernel_rfl, fun j t ht => ?_⟩
  have hall : (Tryz.f7.params.toList.all fun t => !Tryz.prog.wantsStandIn t) = true := by kernel_rfl
  have := List.all_eq_true.1 hall t (by simpa using Array.mem_of_getElem? ht)
  exact Bool.not_eq_true' _ |>.mp this
theorem ParserSpecs_proved : Rows.ParserSpecsCardSaid :=
  Claim7.holds_tied_plain_at .later [] _ _ _ _ ParserSpecs_said (fun _ h => by cases h) (by kernel_rfl) (fun _ h => by cases h) parserSpecs_row_tie rfl ⟨rfl, rfl⟩ (by kernel_rfl) rfl ParserSpecs_plain (by kernel_rfl)
end Go.Proofs.YtmnhnbpnjepkbaaGreatDoor
