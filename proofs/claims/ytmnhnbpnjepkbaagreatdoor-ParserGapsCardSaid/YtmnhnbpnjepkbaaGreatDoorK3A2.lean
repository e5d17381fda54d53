/- The walk through ParserGaps. A law's close: what the walk gives, as the row wants it; the common part. A law's close where the row lists the parser's variables: what the list gives, the witness, the law's step. Bytes that come in, opened. ParserGaps: for every input the law returns true and each argument reads as it did. Conditions: none. -/
import Derived.Test.YtmnhnbpnjepkbaaGreatDoorK3A1
import Derived.WalkKit
import Derived.ProofKit
import Derived.OpenShut
import Derived.JoinedCond
import Derived.ChangeStays
import Derived.ReadAgain
import Derived.Deep.Slices
import Derived.Test.YtmnhnbpnjepkbaaGreatDoorCards
import Derived.Test.YtmnhnbpnjepkbaaGreatDoorTie
import Derived.Deep.DeepWitnessRowRef
import Derived.Lib.LaidTab

namespace Go.Proofs.YtmnhnbpnjepkbaaGreatDoor
open Go.RowKit
set_option linter.unusedVariables false

theorem locL_len (t : List UInt8) (ts : List Tok) : (locL t ts).length = ts.length + 1 := by simp [locL]
set_option maxHeartbeats 3200000 in
set_option maxRecDepth 20000 in
theorem pgaps_ok (w : World) (t : List UInt8) (gv : Value) (gs : List UInt8) (hg : BytesAt anyB w gv gs) (hG : GK w) : Fn Tryz.prog 3 [strV t, gv] w fun v w' => v = .bool true ∧ Ext w w' := by
  obtain ⟨ga, gc, rfl, _⟩ := id hg
  refine fn_of_wc Tryz.func3 rfl Tryz.ntmps3 (Nat.le_of_ble_eq_true rfl) (by kernel_rfl) ?_
  repeat' first | refine nx ?_ | refine C_cond_t rfl ?_ | refine C_cond_f rfl ?_ | refine Q_block_on rfl ?_
  (refine C_region ?_
   <;> (refine M_assign ?_; (first | refine M_bool rfl ?_ | refine W_move ?_))
   <;> refine W_nil ?_)
  repeat' first | refine nx ?_ | refine C_cond_t rfl ?_ | refine C_cond_f rfl ?_ | refine Q_block_on rfl ?_
  (refine C_region ?_)
  -- at operation 0: <dst=(some 16) op=(call <callee=(value (func 9)) args=[] argTypes=[]>) type=4 guard=none>
  refine W_call (head_ok w hG) rfl ?_
  rintro v w1 ⟨rfl, k1⟩
  ((refine M_assign ?_; (first | refine M_bool rfl ?_ | refine W_move ?_))
   <;> refine W_nil ?_)
  repeat' first | refine nx ?_ | refine C_cond_t rfl ?_ | refine C_cond_f rfl ?_ | refine Q_block_on rfl ?_
  by_cases hs : 6000 < t.length
  · (refine C_region ?_
     <;> (first | refine M_str rfl ?_ | refine W_move ?_)
     <;> refine W_slen rfl ?_
     <;> (refine W_gtr rfl rfl (fun hc => ?_) (fun hc => ?_) <;> try (exfalso; omega))
     <;> refine W_nil ?_)
    repeat' first | refine nx ?_ | refine C_cond_t rfl ?_ | refine C_cond_f rfl ?_ | refine Q_block_on rfl ?_
    (refine C_region ?_
     <;> (first | refine M_bool rfl ?_ | refine W_move ?_)
     <;> (refine M_assign ?_; (first | refine M_bool rfl ?_ | refine W_move ?_))
     <;> refine W_nil ?_)
    repeat' first | refine nx ?_ | refine C_cond_t rfl ?_ | refine C_cond_f rfl ?_ | refine Q_block_on rfl ?_
    exact fin_ret1 rfl ⟨rfl, k1⟩
  (refine C_region ?_
   <;> (first | refine M_str rfl ?_ | refine W_move ?_)
   <;> refine W_slen rfl ?_
   <;> (refine W_gtr rfl rfl (fun hc => ?_) (fun hc => ?_) <;> try (exfalso; omega))
   <;> refine W_nil ?_)
  repeat' first | refine nx ?_ | refine C_cond_t rfl ?_ | refine C_cond_f rfl ?_ | refine Q_block_on rfl ?_
  (refine C_region ?_
   <;> (first | refine M_str rfl ?_ | refine W_move ?_))
  -- at operation 1: <dst=(some 23) op=(call <callee=(value (func 10)) args=[(tmp 22)] argTypes=[9]>) type=26 guard=none>
  refine W_call (reflex_ok w1 t) rfl ?_
  rintro _ w2 ⟨a, c, e, q, ts, rfl, kl, hT, h⟩
  have k2 := k1.trans kl
  ((first | refine M_tuple rfl ?_ | refine W_move ?_)
   <;> refine W_extract rfl rfl ?_
   <;> refine W_extract rfl rfl ?_
   <;> refine W_extract rfl rfl ?_
   <;> (refine M_assign ?_; (first | refine M_slice rfl ?_ | refine W_move ?_))
   <;> (refine M_assign ?_; (first | refine M_int rfl ?_ | refine W_move ?_))
   <;> (refine M_assign ?_; (first | refine M_int rfl ?_ | refine W_move ?_))
   <;> refine W_nil ?_)
  repeat' first | refine nx ?_ | refine C_cond_t rfl ?_ | refine C_cond_f rfl ?_ | refine Q_block_on rfl ?_
  rcases h with ⟨hm, rfl, rfl⟩ | ⟨p, hm, he, rfl, rfl⟩
  case inr =>
    (refine C_region ?_
     <;> (first | refine M_int rfl ?_ | refine W_move ?_)
     <;> (refine W_neq rfl rfl (fun hc => ?_) (fun hc => ?_) <;> try (exfalso; omega))
     <;> refine W_nil ?_)
    repeat' first | refine nx ?_ | refine C_cond_t rfl ?_ | refine C_cond_f rfl ?_ | refine Q_block_on rfl ?_
    (refine C_region ?_
     <;> (first | refine M_bool rfl ?_ | refine W_move ?_)
     <;> (refine M_assign ?_; (first | refine M_bool rfl ?_ | refine W_move ?_))
     <;> refine W_nil ?_)
    repeat' first | refine nx ?_ | refine C_cond_t rfl ?_ | refine C_cond_f rfl ?_ | refine Q_block_on rfl ?_
    exact fin_ret1 rfl ⟨rfl, k2⟩
  have hlx := lexM_ok hm
  have hcnt := (lexM_toks hm).2.1
  have hA : ∀ x ∈ ts, Alone x.kind x.text := hlx.2.alone (Nat.le_refl _) (fun x hx => by cases hx)
  have hby : bytesT ts ≤ 6000 := by
    have := hlx.2.bytes
    simp [bytesT] at this ⊢
    omega
  (refine C_region ?_
   <;> (first | refine M_int rfl ?_ | refine W_move ?_)
   <;> (refine W_neq rfl rfl (fun hc => ?_) (fun hc => ?_) <;> try (exfalso; omega))
   <;> refine W_nil ?_)
  repeat' first | refine nx ?_ | refine C_cond_t rfl ?_ | refine C_cond_f rfl ?_ | refine Q_block_on rfl ?_
  (refine C_region ?_
   <;> (first | refine M_slice rfl ?_ | refine W_move ?_)
   <;> (first | refine M_slice rfl ?_ | refine W_move ?_))
  -- at operation 2: <dst=(some 33) op=(call <callee=(value (func 11)) args=[(tmp 31), (tmp 32)] argTypes=[24, 22]>) type=29 guard=none>
  refine W_call (spread_ok w2 a c ts (.slice ga gs.length gc) gs hT (Sl.ext hg k2) hcnt hby) rfl ?_
  rintro _ w3 ⟨a', c', rfl, k3, S3⟩
  have k23 := k2.trans k3
  ((first | refine M_tuple rfl ?_ | refine W_move ?_)
   <;> refine W_extract rfl rfl ?_
   <;> refine W_extract rfl rfl ?_
   <;> (refine M_assign ?_; (first | refine M_str rfl ?_ | refine W_move ?_))
   <;> (refine M_assign ?_; (first | refine M_slice rfl ?_ | refine W_move ?_))
   <;> refine W_nil ?_)
  repeat' first | refine nx ?_ | refine C_cond_t rfl ?_ | refine C_cond_f rfl ?_ | refine Q_block_on rfl ?_
  by_cases hlen : 6000 < (sprT ts gs ts.length).length
  · (refine C_region ?_
     <;> (first | refine M_str rfl ?_ | refine W_move ?_)
     <;> refine W_slen rfl ?_
     <;> (refine W_gtr rfl rfl (fun hc => ?_) (fun hc => ?_) <;> try (exfalso; omega))
     <;> refine W_nil ?_)
    repeat' first | refine nx ?_ | refine C_cond_t rfl ?_ | refine C_cond_f rfl ?_ | refine Q_block_on rfl ?_
    (refine C_region ?_
     <;> (first | refine M_bool rfl ?_ | refine W_move ?_)
     <;> (refine M_assign ?_; (first | refine M_bool rfl ?_ | refine W_move ?_))
     <;> refine W_nil ?_)
    repeat' first | refine nx ?_ | refine C_cond_t rfl ?_ | refine C_cond_f rfl ?_ | refine Q_block_on rfl ?_
    exact fin_ret1 rfl ⟨rfl, k23⟩
  have hm' := spr_lex gs hA hcnt (by omega)
  have hbare : ts.map bare = (sprK ts gs ts.length).map bare := by rw [sprK_bare ts gs _ (Nat.le_refl _), List.take_length]
  have hloc : sprA ts gs ts.length ++ [((sprT ts gs ts.length).length : Int)] = locL (sprT ts gs ts.length) (sprK ts gs ts.length) := by rw [sprA_eq]; rfl
  have hl2 : (locL (sprT ts gs ts.length) (sprK ts gs ts.length)).length = ts.length + 1 := by rw [locL_len, sprK_len]
  rw [hloc, ← hl2] at S3
  (refine C_region ?_
   <;> (first | refine M_str rfl ?_ | refine W_move ?_)
   <;> refine W_slen rfl ?_
   <;> (refine W_gtr rfl rfl (fun hc => ?_) (fun hc => ?_) <;> try (exfalso; omega))
   <;> refine W_nil ?_)
  repeat' first | refine nx ?_ | refine C_cond_t rfl ?_ | refine C_cond_f rfl ?_ | refine Q_block_on rfl ?_
  rw [← hl2]
  generalize sprT ts gs ts.length = u at *
  generalize sprK ts gs ts.length = us at *
  (refine C_region ?_
   <;> (refine M_assign ?_; (first | refine M_slice rfl ?_ | refine W_move ?_))
   <;> refine W_nil ?_)
  repeat' first | refine nx ?_ | refine C_cond_t rfl ?_ | refine C_cond_f rfl ?_ | refine Q_block_on rfl ?_
  (refine C_region ?_
   <;> (refine M_assign ?_; (first | refine M_int rfl ?_ | refine W_move ?_))
   <;> refine W_nil ?_)
  repeat' first | refine nx ?_ | refine C_cond_t rfl ?_ | refine C_cond_f rfl ?_ | refine Q_block_on rfl ?_
  have hT3 := hT.ext k3
  have hcap : ts.length ≤ c ∧ c ≤ 9223372036854775807 := by obtain ⟨_, _, hv, h1, h2, _⟩ := id hT; cases hv; exact ⟨h1, h2⟩
  refine C_loop (α := Nat × Value) (fun x => [(0, strV t), (5, .bool true), (6, .slice a ts.length c), (9, strV u), (10, .slice a' (locL u us).length c'), (11, x.2), (12, .int .i64 (x.1 : Int))])
    (fun x W => x.1 ≤ ts.length ∧ Ext w3 W ∧ W.ownsRow w3.heap.size 3 1 x.2 x.1 (intsC ((ts.take x.1).map fun x => (x.loc : Int)))) (fun x => ts.length - x.1) (0, .slice none 0 0)
    ⟨rfl, rfl, rfl, rfl, rfl, rfl, rfl, trivial⟩ ⟨by simp, Ext.refl _, ⟨rfl, .inl ⟨rfl, rfl⟩⟩⟩ ?_
  rintro ⟨k, v⟩ w4 f4 ⟨hk, k4, o4⟩
  simp only at hk k4 o4 ⊢
  have zk := k4.size
  repeat' first | refine nx ?_ | refine C_cond_t rfl ?_ | refine C_cond_f rfl ?_ | refine Q_block_on rfl ?_
  by_cases hlt : k < ts.length
  · obtain ⟨x, hx⟩ : ∃ x, ts[k]? = some x := ⟨_, List.getElem?_eq_getElem hlt⟩
    obtain ⟨b, o, rfl, hc⟩ := (hT3.ext k4).at hx
    have hc2 := hc 2 _ rfl
    (refine C_region ?_
     <;> (first | refine M_int rfl ?_ | refine W_move ?_)
     <;> (first | refine M_slice rfl ?_ | refine W_move ?_)
     <;> refine W_len rfl ?_
     <;> (refine W_lss rfl rfl (fun hc => ?_) (fun hc => ?_) <;> try (exfalso; omega))
     <;> refine W_nil ?_)
    repeat' first | refine nx ?_ | refine C_cond_t rfl ?_ | refine C_cond_f rfl ?_ | refine Q_block_on rfl ?_
    (refine C_region ?_
     <;> (first | refine M_slice rfl ?_ | refine W_move ?_)
     <;> (first | refine M_slice rfl ?_ | refine W_move ?_)
     <;> (first | refine M_int rfl ?_ | refine W_move ?_)
     <;> (first | refine W_idx1 rfl rfl rfl (by omega) ?_ | refine W_idx rfl rfl rfl (by omega) ?_ | refine W_indexAddr rfl rfl (by omega) (by omega) ?_)
     <;> refine W_fieldAddr rfl ?_
     <;> (first | refine W_load rfl (Blk.cell (by assumption) (by rfl)) ?_ | refine W_load rfl (by assumption) ?_))
    refine W_buildSlice1 (out := [.int .i64 (x.loc : Int)]) rfl (by omega) rfl rfl (fun w5 n5 => ?_)
    have o5 := n5.own (n := 1) (size := 1) rfl (by unfold maxLen; omega) (Nat.le_refl _)
    have z5 := n5.size
    refine W_append (ok := anyB) (v := v) (sv := .slice (some ⟨w4.heap.size, 0, none⟩) 1 1) rfl rfl (ownsRow_ext o4 n5.keep) (Sl_of_own o5 fun _ _ => trivial) (by omega) rfl rfl (by intro y hy; simp at hy; subst hy; rfl) (by omega) (by omega) (by omega) (fun v6 w6 a6 => ?_)
    have e6 : Ext w3 w6 := (k4.trans n5.keep).keep a6.keep fun y hy => (own_in (ownsRow_ext o4 n5.keep) (Option.mem_toList.1 hy)).1
    have o6 := a6.own
    ((refine M_assign ?_; (first | refine M_slice rfl ?_ | refine W_move ?_))
     <;> refine W_nil ?_)
    repeat' first | refine nx ?_ | refine C_cond_t rfl ?_ | refine C_cond_f rfl ?_ | refine Q_block_on rfl ?_
    (refine C_region ?_
     <;> (first | refine M_int rfl ?_ | refine W_move ?_)
     <;> refine W_add rfl rfl (by first | exact inR_i64 (by omega) (by omega) | exact inR_u8 (by omega) (by omega) | exact inR_u16 (by omega) (by omega)) ?_
     <;> (refine M_assign ?_; (first | refine M_int rfl ?_ | refine W_move ?_))
     <;> refine W_nil ?_)
    repeat' first | refine nx ?_ | refine C_cond_t rfl ?_ | refine C_cond_f rfl ?_ | refine Q_block_on rfl ?_
    refine ⟨(k + 1, v6), ⟨rfl, ⟨rfl, rfl, rfl, rfl, rfl, rfl, ?_, trivial⟩, ⟨by simp only; omega, e6, ?_⟩⟩, by simp only; omega⟩
    · show Value.int .i64 ((k : Int) + 1) = _
      rw [Int.natCast_add]; rfl
    · rw [take_snoc hx, List.map_append, intsC_app]
      exact o6
  obtain rfl : k = ts.length := by omega
  (refine C_region ?_
   <;> (first | refine M_int rfl ?_ | refine W_move ?_)
   <;> (first | refine M_slice rfl ?_ | refine W_move ?_)
   <;> refine W_len rfl ?_
   <;> (refine W_lss rfl rfl (fun hc => ?_) (fun hc => ?_) <;> try (exfalso; omega))
   <;> refine W_nil ?_)
  repeat' first | refine nx ?_ | refine C_cond_t rfl ?_ | refine C_cond_f rfl ?_ | refine Q_block_on rfl ?_
  (refine C_region ?_
   <;> (first | refine M_slice rfl ?_ | refine W_move ?_)
   <;> (first | refine M_str rfl ?_ | refine W_move ?_)
   <;> refine W_slen rfl ?_)
  refine W_buildSlice1 (out := [.int .i64 (t.length : Int)]) rfl (by omega) rfl rfl (fun w5 n5 => ?_)
  have o5 := n5.own (n := 1) (size := 1) rfl (by unfold maxLen; omega) (Nat.le_refl _)
  have z5 := n5.size
  refine W_append (ok := anyB) (v := v) (sv := .slice (some ⟨w4.heap.size, 0, none⟩) 1 1) rfl rfl (ownsRow_ext o4 n5.keep) (Sl_of_own o5 fun _ _ => trivial) (by omega) rfl rfl (by intro y hy; simp at hy; subst hy; rfl) (by omega) (by omega) (by omega) (fun v6 w6 a6 => ?_)
  have e6 : Ext w3 w6 := (k4.trans n5.keep).keep a6.keep fun y hy => (own_in (ownsRow_ext o4 n5.keep) (Option.mem_toList.1 hy)).1
  have S6 := Sl_of_own (ok := anyB) a6.own fun _ _ => trivial
  rw [List.take_length] at S6
  replace S6 : Sl anyB w6 v6 (locL t ts).length (intsC (locL t ts)) := by
    rw [locL_len, locL, intsC_app]; exact S6
  obtain ⟨aa, cc, rfl, _⟩ := id S6
  replace S3 := S3.ext e6
  ((refine M_assign ?_; (first | refine M_slice rfl ?_ | refine W_move ?_))
   <;> refine W_nil ?_)
  repeat' first | refine nx ?_ | refine C_cond_t rfl ?_ | refine C_cond_f rfl ?_ | refine Q_block_on rfl ?_
  have k6 := k23.trans e6
  clear a6 o4 o5 n5 hT3 hT zk z5 k4
  (refine C_region ?_
   <;> (first | refine M_str rfl ?_ | refine W_move ?_))
  -- at operation 1: <dst=(some 60) op=(call <callee=(value (func 12)) args=[(tmp 59)] argTypes=[9]>) type=45 guard=none>
  refine W_call (parsed_form w6 t (hG.ext k6)) rfl ?_
  rintro _ w7 ⟨k7, oS, oF, oD, x0, x1, x2, x3, x4, x5, x6, x7, x8, x9, xa, xb, xc, xd, xe, xf, pS, pF, pD, hR, rfl, hone⟩
  skip
  -- at operation 2: <dst=(some 13) op=(alloc 45) type=0 guard=none>
  refine W_newAgg (cs := [x0, x1, x2, x3, x4, x5, x6, x7, x8, x9, xa, xb, xc, xd, xe, xf, .int .i64 oS.errno, .int .i64 oF.errno, .int .i64 oD.errno, .int .i64 oS.loc, .int .i64 oF.loc, .int .i64 oD.loc]) rfl rfl (by rfl) hone (fun w8 n8 => ?_)
  have b8 := n8.blk
  have k8 : Ext w6 w8 := k7.trans n8.keep
  replace hR := hR.ext n8.keep
  refine W_nil ?_
  repeat' first | refine nx ?_ | refine C_cond_t rfl ?_ | refine C_cond_f rfl ?_ | refine Q_block_on rfl ?_
  (refine C_region ?_
   <;> (first | refine M_str rfl ?_ | refine W_move ?_))
  -- at operation 1: <dst=(some 62) op=(call <callee=(value (func 12)) args=[(tmp 61)] argTypes=[9]>) type=45 guard=none>
  refine W_call (parsed_form w8 u (hG.ext (k6.trans k8))) rfl ?_
  rintro _ w9 ⟨k9, oS', oF', oD', y0, y1, y2, y3, y4, y5, y6, y7, y8, y9, ya, yb, yc, yd, ye, yf, pS', pF', pD', hR', rfl, hone'⟩
  skip
  -- at operation 2: <dst=(some 14) op=(alloc 45) type=0 guard=none>
  refine W_newAgg (cs := [y0, y1, y2, y3, y4, y5, y6, y7, y8, y9, ya, yb, yc, yd, ye, yf, .int .i64 oS'.errno, .int .i64 oF'.errno, .int .i64 oD'.errno, .int .i64 oS'.loc, .int .i64 oF'.loc, .int .i64 oD'.loc]) rfl rfl (by rfl) hone' (fun wa na => ?_)
  have c10 := na.blk
  have k8a : Ext w8 wa := k9.trans na.keep
  have k6a := k8.trans k8a
  have b10 := b8.keep k8a (by simp)
  replace hR' := hR'.ext na.keep
  replace hR := hR.ext k8a
  refine W_nil ?_
  repeat' first | refine nx ?_ | refine C_cond_t rfl ?_ | refine C_cond_f rfl ?_ | refine Q_block_on rfl ?_
  have kA := k6.trans k6a
  obtain ⟨gS1, gS2, gS3, gS4⟩ := gaps_law hm hm' hbare pS pS' zeroS
  obtain ⟨gF1, gF2, gF3, gF4⟩ := gaps_law hm hm' hbare pF pF' zeroF
  obtain ⟨gD1, gD2, gD3, gD4⟩ := gaps_law hm hm' hbare pD pD' zeroD
  replace S3 := S3.ext k6a
  replace S6 := S6.ext k6a
  clear hone hone' n8 na b8 k8a k8 k7 k9
  refine C_drawN (.read 0 (.read 1 (.read 2 (.read 4 (.read 5 (.read 6 (.alt 3 (.alt 7 (.read 8 (.read 9 (.read 10 (.read 11 (.read 12 (.read 14 (.read 15 (.read 16 (.alt 13 (.alt 17 (.read 18 (.read 19 (.read 20 (.read 21 (.read 22 (.read 23 (.read 25 (.read 26 (.read 27 (.alt 24 (.alt 28 (.read 29 (.read 30 (.read 31 .done))) .stop) .stop)))))))))) .stop) .stop))))))))) .stop) .stop))))))) mixed (by kernel_rfl) (fun wd kd ed => ⟨fun W => W = wd, ?_, ?_⟩)
  · rfl
  have bd := b10.keep kd (by simp)
  have cd := c10.keep kd (by simp)
  have Sd := S6.ext kd
  have Td := S3.ext kd
  ((apply D_R rfl rfl; (intro W hW; subst hW; (first | refine M_slice rfl ?_ | refine W_move ?_); exact W_nil ⟨rfl, rfl, rfl⟩))
   <;> (apply D_R rfl rfl; (intro W hW; subst hW; refine W_fieldAddr rfl ?_; exact W_nil ⟨rfl, rfl, rfl⟩))
   <;> (apply D_R rfl rfl; (intro W hW; subst hW; (first | refine W_load rfl (Blk.cell (by assumption) (by rfl)) ?_ | refine W_load rfl (by assumption) ?_); exact W_nil ⟨rfl, rfl, rfl⟩))
   <;> (apply D_R rfl rfl; (intro W hW; subst hW; (first | refine M_slice rfl ?_ | refine W_move ?_); exact W_nil ⟨rfl, rfl, rfl⟩))
   <;> (apply D_R rfl rfl; (intro W hW; subst hW; refine W_fieldAddr rfl ?_; exact W_nil ⟨rfl, rfl, rfl⟩))
   <;> (apply D_R rfl rfl; (intro W hW; subst hW; (first | refine W_load rfl (Blk.cell (by assumption) (by rfl)) ?_ | refine W_load rfl (by assumption) ?_); exact W_nil ⟨rfl, rfl, rfl⟩)))
  -- at place 6, operation 3: <dst=(some 66) op=(call <callee=(value (func 13)) args=[(tmp 63), (tmp 65)] argTypes=[28, 3]>) type=3 guard=none>
  refine D_E rfl ?_
  refine W_call (place_ok _ _ _ (locL t ts) oS.loc Sd) rfl ?_
  rintro _ _ ⟨rfl, rfl⟩
  refine W_nil ⟨fun W => W = _, fun _ h => h, rfl, ?_⟩
  refine D_E rfl ?_
  refine W_call (place_ok _ _ _ (locL u us) oS'.loc Td) rfl ?_
  rintro _ _ ⟨rfl, rfl⟩
  refine W_nil ⟨fun W => W = _, fun _ h => h, rfl, ?_⟩
  ((refine D_eql rfl rfl rfl rfl (fun hc => ?_) (fun hc => ?_) <;> try (exfalso; omega))
   <;> (apply D_R rfl rfl; (intro W hW; subst hW; (first | refine M_bool rfl ?_ | refine W_move ?_); exact W_nil ⟨rfl, rfl, rfl⟩))
   <;> (first | refine D_skip rfl rfl rfl rfl ?_ | (apply D_R rfl rfl; (intro W hW; refine W_no rfl ?_; exact W_nil ⟨rfl, rfl, rfl⟩)) | (apply D_R rfl rfl; (intro W hW; subst hW; (refine W_yes rfl ?_; (first | refine M_slice rfl ?_ | refine W_move ?_)); exact W_nil ⟨rfl, rfl, rfl⟩)))
   <;> (first | refine D_skip rfl rfl rfl rfl ?_ | (apply D_R rfl rfl; (intro W hW; refine W_no rfl ?_; exact W_nil ⟨rfl, rfl, rfl⟩)) | (apply D_R rfl rfl; (intro W hW; subst hW; (refine W_yes rfl ?_; refine W_fieldAddr rfl ?_); exact W_nil ⟨rfl, rfl, rfl⟩)))
   <;> (first | refine D_skip rfl rfl rfl rfl ?_ | (apply D_R rfl rfl; (intro W hW; refine W_no rfl ?_; exact W_nil ⟨rfl, rfl, rfl⟩)) | (apply D_R rfl rfl; (intro W hW; subst hW; (refine W_yes rfl ?_; (first | refine W_load rfl (Blk.cell (by assumption) (by rfl)) ?_ | refine W_load rfl (by assumption) ?_)); exact W_nil ⟨rfl, rfl, rfl⟩)))
   <;> (first | refine D_skip rfl rfl rfl rfl ?_ | (apply D_R rfl rfl; (intro W hW; refine W_no rfl ?_; exact W_nil ⟨rfl, rfl, rfl⟩)) | (apply D_R rfl rfl; (intro W hW; subst hW; (refine W_yes rfl ?_; (first | refine M_slice rfl ?_ | refine W_move ?_)); exact W_nil ⟨rfl, rfl, rfl⟩)))
   <;> (first | refine D_skip rfl rfl rfl rfl ?_ | (apply D_R rfl rfl; (intro W hW; refine W_no rfl ?_; exact W_nil ⟨rfl, rfl, rfl⟩)) | (apply D_R rfl rfl; (intro W hW; subst hW; (refine W_yes rfl ?_; refine W_fieldAddr rfl ?_); exact W_nil ⟨rfl, rfl, rfl⟩)))
   <;> (first | refine D_skip rfl rfl rfl rfl ?_ | (apply D_R rfl rfl; (intro W hW; refine W_no rfl ?_; exact W_nil ⟨rfl, rfl, rfl⟩)) | (apply D_R rfl rfl; (intro W hW; subst hW; (refine W_yes rfl ?_; (first | refine W_load rfl (Blk.cell (by assumption) (by rfl)) ?_ | refine W_load rfl (by assumption) ?_)); exact W_nil ⟨rfl, rfl, rfl⟩))))
  -- at place 16, operation 13: <dst=(some 76) op=(call <callee=(value (func 13)) args=[(tmp 73), (tmp 75)] argTypes=[28, 3]>) type=3 guard=(some [9, true])>
  refine D_E rfl ?_
  (refine W_yes rfl ?_; refine W_call (place_ok _ _ _ (locL t ts) oF.loc Sd) rfl ?_)
  rintro _ _ ⟨rfl, rfl⟩
  refine W_nil ⟨fun W => W = _, fun _ h => h, rfl, ?_⟩
  refine D_E rfl ?_
  (refine W_yes rfl ?_; refine W_call (place_ok _ _ _ (locL u us) oF'.loc Td) rfl ?_)
  rintro _ _ ⟨rfl, rfl⟩
  refine W_nil ⟨fun W => W = _, fun _ h => h, rfl, ?_⟩
  ((first | refine D_skip rfl rfl rfl rfl ?_ | (apply D_R rfl rfl; (intro W hW; refine W_no rfl ?_; exact W_nil ⟨rfl, rfl, rfl⟩)) | (refine D_eql rfl rfl rfl rfl (fun hc => ?_) (fun hc => ?_) <;> try (exfalso; omega)))
   <;> (apply D_R rfl rfl; (intro W hW; subst hW; ((first | refine M_pick_t rfl ?_ | refine M_pick_f rfl ?_); (first | refine M_bool rfl ?_ | refine W_move ?_)); exact W_nil ⟨rfl, rfl, rfl⟩))
   <;> (apply D_R rfl rfl; (intro W hW; subst hW; (first | refine M_bool rfl ?_ | refine W_move ?_); exact W_nil ⟨rfl, rfl, rfl⟩))
   <;> (first | refine D_skip rfl rfl rfl rfl ?_ | (apply D_R rfl rfl; (intro W hW; refine W_no rfl ?_; exact W_nil ⟨rfl, rfl, rfl⟩)) | (apply D_R rfl rfl; (intro W hW; subst hW; (refine W_yes rfl ?_; (first | refine M_slice rfl ?_ | refine W_move ?_)); exact W_nil ⟨rfl, rfl, rfl⟩)))
   <;> (first | refine D_skip rfl rfl rfl rfl ?_ | (apply D_R rfl rfl; (intro W hW; refine W_no rfl ?_; exact W_nil ⟨rfl, rfl, rfl⟩)) | (apply D_R rfl rfl; (intro W hW; subst hW; (refine W_yes rfl ?_; refine W_fieldAddr rfl ?_); exact W_nil ⟨rfl, rfl, rfl⟩)))
   <;> (first | refine D_skip rfl rfl rfl rfl ?_ | (apply D_R rfl rfl; (intro W hW; refine W_no rfl ?_; exact W_nil ⟨rfl, rfl, rfl⟩)) | (apply D_R rfl rfl; (intro W hW; subst hW; (refine W_yes rfl ?_; (first | refine W_load rfl (Blk.cell (by assumption) (by rfl)) ?_ | refine W_load rfl (by assumption) ?_)); exact W_nil ⟨rfl, rfl, rfl⟩)))
   <;> (first | refine D_skip rfl rfl rfl rfl ?_ | (apply D_R rfl rfl; (intro W hW; refine W_no rfl ?_; exact W_nil ⟨rfl, rfl, rfl⟩)) | (apply D_R rfl rfl; (intro W hW; subst hW; (refine W_yes rfl ?_; (first | refine M_slice rfl ?_ | refine W_move ?_)); exact W_nil ⟨rfl, rfl, rfl⟩)))
   <;> (first | refine D_skip rfl rfl rfl rfl ?_ | (apply D_R rfl rfl; (intro W hW; refine W_no rfl ?_; exact W_nil ⟨rfl, rfl, rfl⟩)) | (apply D_R rfl rfl; (intro W hW; subst hW; (refine W_yes rfl ?_; refine W_fieldAddr rfl ?_); exact W_nil ⟨rfl, rfl, rfl⟩)))
   <;> (first | refine D_skip rfl rfl rfl rfl ?_ | (apply D_R rfl rfl; (intro W hW; refine W_no rfl ?_; exact W_nil ⟨rfl, rfl, rfl⟩)) | (apply D_R rfl rfl; (intro W hW; subst hW; (refine W_yes rfl ?_; (first | refine W_load rfl (Blk.cell (by assumption) (by rfl)) ?_ | refine W_load rfl (by assumption) ?_)); exact W_nil ⟨rfl, rfl, rfl⟩))))
  -- at place 27, operation 24: <dst=(some 87) op=(call <callee=(value (func 13)) args=[(tmp 84), (tmp 86)] argTypes=[28, 3]>) type=3 guard=(some [20, true])>
  refine D_E rfl ?_
  (refine W_yes rfl ?_; refine W_call (place_ok _ _ _ (locL t ts) oD.loc Sd) rfl ?_)
  rintro _ _ ⟨rfl, rfl⟩
  refine W_nil ⟨fun W => W = _, fun _ h => h, rfl, ?_⟩
  refine D_E rfl ?_
  (refine W_yes rfl ?_; refine W_call (place_ok _ _ _ (locL u us) oD'.loc Td) rfl ?_)
  rintro _ _ ⟨rfl, rfl⟩
  refine W_nil ⟨fun W => W = _, fun _ h => h, rfl, ?_⟩
  ((first | refine D_skip rfl rfl rfl rfl ?_ | (apply D_R rfl rfl; (intro W hW; refine W_no rfl ?_; exact W_nil ⟨rfl, rfl, rfl⟩)) | (refine D_eql rfl rfl rfl rfl (fun hc => ?_) (fun hc => ?_) <;> try (exfalso; omega)))
   <;> (apply D_R rfl rfl; (intro W hW; subst hW; ((first | refine M_pick_t rfl ?_ | refine M_pick_f rfl ?_); (first | refine M_bool rfl ?_ | refine W_move ?_)); exact W_nil ⟨rfl, rfl, rfl⟩))
   <;> (apply D_R rfl rfl; (intro W hW; subst hW; (refine M_assign ?_; (first | refine M_bool rfl ?_ | refine W_move ?_)); exact W_nil ⟨rfl, rfl, rfl⟩))
   <;> refine D_nil ?_)
  repeat' first | refine nx ?_ | refine C_cond_t rfl ?_ | refine C_cond_f rfl ?_ | refine Q_block_on rfl ?_
  (refine C_region ?_
   <;> (first | refine M_bool rfl ?_ | refine W_move ?_)
   <;> (first | refine M_bool rfl ?_ | refine W_move ?_))
  (refine W_yes rfl ?_; refine W_load_aggB rfl bd rfl ?_)
  (refine W_yes rfl ?_; refine W_load_aggB rfl cd rfl ?_)
  (refine W_yes rfl ?_; refine W_call (alike_ok _ _ _ oS oS' oF oF' oD oD' (hR.ext kd) (hR'.ext kd)) rfl ?_)
  rintro _ we ⟨b, rfl, hb, ke⟩
  obtain rfl : b = true := hb.2 ⟨gS1, gF1, gD1, gS2, gF2, gD2⟩
  have be := bd.keep ke (by simp)
  have Se := Sd.ext ke
  (((first | refine M_pick_t rfl ?_ | refine M_pick_f rfl ?_); (first | refine M_bool rfl ?_ | refine W_move ?_))
   <;> (first | refine M_bool rfl ?_ | refine W_move ?_)
   <;> (first | refine W_no rfl ?_ | (refine W_yes rfl ?_; (first | refine M_bool rfl ?_ | refine W_move ?_)))
   <;> ((first | refine M_pick_t rfl ?_ | refine M_pick_f rfl ?_); (first | refine M_bool rfl ?_ | refine W_move ?_))
   <;> (first | refine M_bool rfl ?_ | refine W_move ?_)
   <;> (first | refine W_no rfl ?_ | (refine W_yes rfl ?_; (first | refine M_slice rfl ?_ | refine W_move ?_)))
   <;> (first | refine W_no rfl ?_ | (refine W_yes rfl ?_; refine W_fieldAddr rfl ?_))
   <;> (first | refine W_no rfl ?_ | (refine W_yes rfl ?_; (first | refine W_load rfl (Blk.cell (by assumption) (by rfl)) ?_ | refine W_load rfl (by assumption) ?_))))
  (refine W_yes rfl ?_; refine W_call (place_ok _ _ _ (locL t ts) oS.loc Se) rfl ?_)
  rintro _ _ ⟨rfl, rfl⟩
  ((first | refine W_no rfl ?_ | (refine W_yes rfl ?_; (refine W_neq rfl rfl (fun hc => ?_) (fun hc => ?_) <;> try (exfalso; omega))))
   <;> ((first | refine M_pick_t rfl ?_ | refine M_pick_f rfl ?_); (first | refine M_bool rfl ?_ | refine W_move ?_))
   <;> (first | refine M_bool rfl ?_ | refine W_move ?_)
   <;> (first | refine W_no rfl ?_ | (refine W_yes rfl ?_; (first | refine M_slice rfl ?_ | refine W_move ?_)))
   <;> (first | refine W_no rfl ?_ | (refine W_yes rfl ?_; refine W_fieldAddr rfl ?_))
   <;> (first | refine W_no rfl ?_ | (refine W_yes rfl ?_; (first | refine W_load rfl (Blk.cell (by assumption) (by rfl)) ?_ | refine W_load rfl (by assumption) ?_))))
  (refine W_yes rfl ?_; refine W_call (place_ok _ _ _ (locL t ts) oF.loc Se) rfl ?_)
  rintro _ _ ⟨rfl, rfl⟩
  ((first | refine W_no rfl ?_ | (refine W_yes rfl ?_; (refine W_neq rfl rfl (fun hc => ?_) (fun hc => ?_) <;> try (exfalso; omega))))
   <;> ((first | refine M_pick_t rfl ?_ | refine M_pick_f rfl ?_); (first | refine M_bool rfl ?_ | refine W_move ?_))
   <;> (first | refine M_bool rfl ?_ | refine W_move ?_)
   <;> (first | refine W_no rfl ?_ | (refine W_yes rfl ?_; (first | refine M_slice rfl ?_ | refine W_move ?_)))
   <;> (first | refine W_no rfl ?_ | (refine W_yes rfl ?_; refine W_fieldAddr rfl ?_))
   <;> (first | refine W_no rfl ?_ | (refine W_yes rfl ?_; (first | refine W_load rfl (Blk.cell (by assumption) (by rfl)) ?_ | refine W_load rfl (by assumption) ?_))))
  (refine W_yes rfl ?_; refine W_call (place_ok _ _ _ (locL t ts) oD.loc Se) rfl ?_)
  rintro _ _ ⟨rfl, rfl⟩
  ((first | refine W_no rfl ?_ | (refine W_yes rfl ?_; (refine W_neq rfl rfl (fun hc => ?_) (fun hc => ?_) <;> try (exfalso; omega))))
   <;> ((first | refine M_pick_t rfl ?_ | refine M_pick_f rfl ?_); (first | refine M_bool rfl ?_ | refine W_move ?_))
   <;> (refine M_assign ?_; (first | refine M_bool rfl ?_ | refine W_move ?_))
   <;> refine W_nil ?_)
  repeat' first | refine nx ?_ | refine C_cond_t rfl ?_ | refine C_cond_f rfl ?_ | refine Q_block_on rfl ?_
  exact fin_ret1 rfl ⟨rfl, (kA.trans kd).trans ke⟩
end Go.Proofs.YtmnhnbpnjepkbaaGreatDoor

namespace Go.Proofs.YtmnhnbpnjepkbaaGreatDoor
open Go.ChangeShapes Go.WideShapes Go.ChangeAt Go.RowKit
open Go.ChangeMaps (open_string)

section
variable {H : Type} {enc : TypeId × Value → H} {P : Program} {W W' : World}

theorem sameAt_ext (he : Ext W W') {p : MemPlace} (hp : p.block < W.heap.size) : W.sameAt W' p := by
  cases p with
  | cell b off => exact World.cell?_of_block (w := W) (a := ⟨b, off, none⟩) (he.block b hp (by simp))
  | map b => exact he.block b hp (by simp)

theorem trodAll_ext (K : Kids P (· < P.types.size)) (hz : ∀ t e, t < P.types.size → P.underlying t = some (.slice e) → 0 < P.cellsOf e) (he : Ext W W') {sp : Nat → Bool} :
    ∀ {ts : List TypeId} {vs : List Value} {ds : List (DataW H)} {ps : List MemPlace}, (∀ t ∈ ts, t < P.types.size) → DataW.TrodAll enc P W 0 (fun _ => true) true ts vs ds ps →
      (∀ p ∈ ps, p.block < W.heap.size) → (∀ p ∈ ps, sp p.block = true) → DataW.TrodAll enc P W' 0 sp true ts vs ds ps
  | [], [], [], _, _, h, _, _ => h
  | _ :: _, _ :: _, _ :: _, _, hT, ⟨p, q, ⟨n, h1⟩, h2, e⟩, hl, hs => by
    subst e
    refine ⟨p, q, ⟨n, DataW.trod_stays K (fun ht hu => hz _ _ ht hu) (fun h => by cases h) (hT _ (by simp)) h1 (fun x hx => sameAt_ext he (hl x (List.mem_append_left _ hx))) fun x hx => hs x (List.mem_append_left _ hx)⟩, ?_, rfl⟩
    exact trodAll_ext K hz he (fun t ht => hT t (List.mem_cons_of_mem _ ht)) h2 (fun x hx => hl x (List.mem_append_right _ hx)) fun x hx => hs x (List.mem_append_right _ hx)

theorem keptBut_ext (he : Ext W W') (may : MemPlace → Prop) : W.keptBut W' may := by
  refine ⟨he.os, he.output, fun i hi => ?_⟩
  rw [he.block i hi (by simp)]
  exact (World.keptBut_refl W may).2.2 i hi

/-- a law that answers true in a world where all is as it was -/
theorem post_of_ext (K : Kids P (· < P.types.size)) (hz : ∀ t e, t < P.types.size → P.underlying t = some (.slice e) → 0 < P.cellsOf e) {f : Func} {s : ChangeSpec} {apart fresh handsOn : Bool} {args : Array Value} {v : Value} {ds gs : List (DataW H)} {before : List MemPlace} {tb : TypeId}
    (hts : ∀ t ∈ f.params.toList, t < P.types.size) (hs : s.vars = []) (hW : DataW.Whole enc P f.params.toList s.vars apart W args.toList ds gs before)
    (hfn : s.fn H (ds ++ gs) = { results := [.lit (.bool true)], args := ds }) (hrt : f.resultTypes = #[tb]) (htb : P.underlying tb = some .bool) (hv : v = .bool true) (he : Ext W W') :
    s.post enc P f apart fresh handsOn false W args v W' := by
  subst hv
  have hlt : ∀ p ∈ before, p.block < W.heap.size := hW.lt
  obtain ⟨p, q, hA, hV, rfl, hf, hn⟩ := id hW
  have hq : gs = [] ∧ q = [] := by
    rw [hs] at hV
    cases gs with
    | nil => exact ⟨rfl, hV⟩
    | cons _ _ => exact hV.elim
  obtain ⟨rfl, rfl⟩ := hq
  refine ⟨ds, [], _, [], p, [], hW, ?_, ?_, ?_, keptBut_ext he _, (fun h => by cases h)⟩
  · rw [hfn, hrt]
    exact trodAll_cons_mk (shut_bool htb true) trodAll_mk0
  · rw [hfn]
    exact trodAll_ext K hz he hts hA (fun x hx => hlt x (List.mem_append_left _ hx)) fun x hx => by simpa using hlt x (List.mem_append_left _ hx)
  · rw [hfn, hs]; exact rfl
end

theorem kids : Kids Tryz.prog (· < Tryz.prog.types.size) := kids_rows (by kernel_rfl) (by kernel_rfl)
theorem full : ∀ t e, t < Tryz.prog.types.size → Tryz.prog.underlying t = some (.slice e) → 0 < Tryz.prog.cellsOf e := slices_full_of Tryz.prog (by kernel_rfl)
theorem own : ownKnob Tryz.prog.godebug = none := by kernel_rfl

section
variable {H : Type} {enc : TypeId × Value → H} {P : Program} {W : World} {sp : Nat → Bool} {hd : Bool}
theorem spot_none {a : Addr} {v : Value} (h : W.cell? a = some v) : a.spot = none := by
  cases ha : a.spot with
  | none => rfl
  | some _ =>
    unfold World.cell? at h
    split at h
    · simp [ha] at h
    · cases h

theorem val_one {r : Reach} {t e : TypeId} {v u : Value} {b : Nat} (ht : P.underlying t = some (.slice e)) (hval : Value.okWide P W r b t v) (h : v.cells.toList = [u]) : v = u := by
  obtain ⟨a, l, c, rfl⟩ := okWide_slice ht hval
  simpa [Value.cells] using h
end
set_option maxRecDepth 100000 in
/-- a law's step: what is left is its walk -/
theorem law_lifted {os : Os} (started : os.Started) {k : FuncId} {fn : Func} {s : ChangeSpec} {conds : List PathCond} {fresh : Bool} {H : Type} {enc : TypeId × Value → H} (noInit : Tryz.prog.inits.idxOf? k = none) (hfn : Tryz.prog.funcs[k]? = some fn)
    (witness : ∃ (w : World) (tape : Tape) (i : Input), w.os = os ∧ (w.forCall tape i).Shaped Tryz.prog ∧ i.vars = [] ∧ Input.okWide Tryz.prog (w.forCall tape i) .any w.heap.size k i ∧
      s.pre6 enc Tryz.prog fn conds false (w.forCall tape i).memory i.args ∧ ({} : Assume).holds Tryz.prog (lone (Frame.enter Tryz.prog k i.args .normal) [] (w.forCall tape i)))
    (hs : s.vars = []) (hts : (fn.params.toList.all fun t => decide (t < Tryz.prog.types.size)) = true) (hrt : fn.resultTypes = #[4])
    (hspec : ∀ ds : List (DataW H), ds.length = fn.params.toList.length → s.fn H ds = { results := [.lit (.bool true)], args := ds })
    (law : ∀ (W : World) (base : Nat) (args : List Value) (ds : List (DataW H)) (p : List MemPlace), (∀ (j : Nat) t v, fn.params.toList[j]? = some t → args[j]? = some v → Value.okWide Tryz.prog W .any base t v) →
      DataW.TrodAll enc Tryz.prog W 0 (fun _ => true) true fn.params.toList args ds p → Fn Tryz.prog k args W fun v w' => v = .bool true ∧ Ext W w') :
    ReturnsInHanded {} Tryz.checked os k .any (s.pre6 enc Tryz.prog fn conds false) (s.post enc Tryz.prog fn false fresh false false) := by
  refine returnsInHanded_of_change (C := Tryz.checked) own started noInit hfn witness ?_
  intro W base args ds gs before hval hW _ _
  have hW' := hW
  obtain ⟨p, q, hA, hV, rfl, hf, hn⟩ := hW
  have hg : gs = [] := by
    rw [hs] at hV
    cases gs with
    | nil => rfl
    | cons _ _ => exact hV.elim
  subst hg
  have hlen : ∀ {ts : List TypeId} {vs : List Value} {ds : List (DataW H)} {ps : List MemPlace}, DataW.TrodAll enc Tryz.prog W 0 (fun _ => true) true ts vs ds ps → ds.length = ts.length := by
    intro ts
    induction ts with
    | nil => intro vs ds ps h; obtain ⟨rfl, rfl, rfl⟩ := trodAll_nil h; rfl
    | cons t ts ih => intro vs ds ps h; obtain ⟨v, vs1, d, ds1, a, b, rfl, rfl, rfl, h1, h2⟩ := trodAll_cons h; simp [ih h2]
  refine Calls.mono (law W base args.toList ds p (fun j t v h1 h2 => hval j t v (Array.getElem?_toList.symm.trans h1) (Array.getElem?_toList.symm.trans h2)) hA) fun e W' he => ?_
  cases e with
  | returned v =>
    refine ⟨v, rfl, post_of_ext kids full (fun t ht => of_decide_eq_true (List.all_eq_true.1 hts t ht)) hs hW' ?_ hrt Tryz.underlying4 he.1 he.2⟩
    rw [List.append_nil]; exact hspec ds (hlen hA)
  | panicked ch => exact he.elim
  | outgrown => exact he.elim

end Go.Proofs.YtmnhnbpnjepkbaaGreatDoor

namespace Go.Proofs.YtmnhnbpnjepkbaaGreatDoor
open Go.ChangeShapes Go.WideShapes Go.ChangeAt Go.RowKit
set_option linter.unusedVariables false

section
variable {H : Type} {enc : TypeId × Value → H} {P : Program} {w : World} {base : Nat} {sp : Nat → Bool} {held : Bool}
theorem trod_arr {fuel : Nat} {t e : TypeId} {n c : Nat} {cs : List Value} {ds : List (DataW H)} {p : List MemPlace} (ht : P.underlying t = some (.array n e)) (hce : P.cellsOf e = c) (hct : P.cellsOf t = n * c)
    (h : DataW.trod enc P w base sp held fuel t cs = some (.agg ds, p)) : cs.length = n * c ∧ ∃ m, ∀ i, i < n → ∃ d q, ds[i]? = some d ∧ DataW.trod enc P w base sp held m e ((cs.drop (i * c)).take c) = some (d, q) := by
  cases fuel with
  | zero => simp [DataW.trod] at h
  | succ fuel =>
    simp only [DataW.trod, ht, hce, hct] at h
    split at h
    · rename_i hl
      obtain ⟨xs, hm, hx⟩ := Option.map_eq_some_iff.1 h
      have hxs : xs.map (·.1) = ds := by
        have := congrArg Prod.fst hx
        simpa using this
      refine ⟨hl, fuel, fun i hi => ?_⟩
      obtain ⟨b, hb, hf⟩ := Lib.mapM_at hm i i (by simp [hi])
      exact ⟨b.1, b.2, by rw [← hxs, List.getElem?_map, hb]; rfl, hf⟩
    · cases h
end

def spanD (p : Nat × Nat × Nat) : DataW Unit := .agg [.lit (.int .u8 (p.1 : Int)), .lit (.int .u8 (p.2.1 : Int)), .lit (.int .i64 (p.2.2 : Int))]
theorem cell_of_piece {cs out : List Value} {c i r : Nat} {v : Value} (h : (cs.drop (i * c)).take c = out) (hv : out[r]? = some v) : cs[i * c + r]? = some v := by
  subst h
  rw [List.getElem?_take] at hv
  split at hv
  · rwa [List.getElem?_drop] at hv
  · cases hv

theorem len3 {cs : List Value} (h : cs.length = 3) : ∃ c0 c1 c2, cs = [c0, c1, c2] := by
  match cs, h with
  | [a, b, c], _ => exact ⟨a, b, c, rfl⟩
theorem span_piece {w : World} {fuel : Nat} {cs : List Value} {p : Nat × Nat × Nat} {q : List MemPlace} (h : DataW.trod (fun _ => ()) Tryz.prog w 0 (fun _ => true) false fuel 123 cs = some (spanD p, q)) : cs = spanC1 p := by
  have hc : Tryz.prog.cellsOf 123 = 3 := by kernel_rfl
  have h8 : Tryz.prog.cellsOf 5 = 1 := by kernel_rfl
  have hi : Tryz.prog.cellsOf 3 = 1 := by kernel_rfl
  obtain ⟨xs, n, _, hx, hcl, hxl, hf⟩ := DataW.trod_struct Tryz.underlying123 h
  rw [hc] at hcl
  obtain ⟨c0, c1, c2, rfl⟩ := len3 hcl
  have f0 : DataW.trod (fun _ => ()) Tryz.prog w 0 (fun _ => true) false n 5 ((List.drop 0 [c0, c1, c2]).take (Tryz.prog.cellsOf 5)) = xs[0]? := hf 0 _ rfl
  have f1 : DataW.trod (fun _ => ()) Tryz.prog w 0 (fun _ => true) false n 5 ((List.drop 1 [c0, c1, c2]).take (Tryz.prog.cellsOf 5)) = xs[1]? := hf 1 _ rfl
  have f2 : DataW.trod (fun _ => ()) Tryz.prog w 0 (fun _ => true) false n 3 ((List.drop 2 [c0, c1, c2]).take (Tryz.prog.cellsOf 3)) = xs[2]? := hf 2 _ rfl
  have hx3 : xs.length = 3 := hxl
  rw [h8] at f0 f1
  rw [hi] at f2
  have g0 : xs[0]? = some xs[0] := List.getElem?_eq_getElem (by omega)
  have g1 : xs[1]? = some xs[1] := List.getElem?_eq_getElem (by omega)
  have g2 : xs[2]? = some xs[2] := List.getElem?_eq_getElem (by omega)
  obtain ⟨a, ha, ha', _⟩ := DataW.trod_int Tryz.underlying5 (f0.trans g0)
  obtain ⟨b, hb, hb', _⟩ := DataW.trod_int Tryz.underlying5 (f1.trans g1)
  obtain ⟨c, hc2, hc', _⟩ := DataW.trod_int Tryz.underlying3 (f2.trans g2)
  have hd : xs.map (·.1) = [.lit (.int .u8 (p.1 : Int)), .lit (.int .u8 (p.2.1 : Int)), .lit (.int .i64 (p.2.2 : Int))] := by
    have := congrArg Prod.fst hx
    simpa [spanD] using this.symm
  have e0 := congrArg (·[0]?) hd
  have e1 := congrArg (·[1]?) hd
  have e2 := congrArg (·[2]?) hd
  simp [g0, ha'] at e0
  simp [g1, hb'] at e1
  simp [g2, hc'] at e2
  simp at ha hb hc2
  rw [ha, hb, hc2, e0, e1, e2]
  try rfl
theorem sym_piece {w : World} {fuel : Nat} {cs : List Value} {l : List UInt8} {q : List MemPlace} (h : DataW.trod (fun _ => ()) Tryz.prog w 0 (fun _ => true) false fuel 9 cs = some (.lit (.string l), q)) : cs = [strV l] := by
  obtain ⟨s, rfl, hx, _⟩ := DataW.trod_string Tryz.underlying9 h
  have := congrArg Prod.fst hx
  simp at this
  rw [this]

def laidL : List (String × DataW Unit) := [("math/bits.deBruijn32tab", Rows.laid_math_bits_deBruijn32tab), ("math/bits.deBruijn64tab", Rows.laid_math_bits_deBruijn64tab), ("internal/strconv.uint64pow10", Rows.laid_internal_strconv_uint64pow10), ("strconv.ErrRange", Rows.laid_strconv_ErrRange), ("strconv.ErrSyntax", Rows.laid_strconv_ErrSyntax), ("foresight/signal.keys", Rows.laid_foresight_signal_keys), ("foresight/lexer.spans", Rows.laid_foresight_lexer_spans), ("foresight/lexer.symbols", Rows.laid_foresight_lexer_symbols)]
theorem gk_of_laid {W : World} (h : laidMetH Tryz.prog laidL W) : GK W := by
  have h' : laidMet Tryz.prog laidL W := h
  obtain ⟨ps, ⟨g1, t1, cs1, fu1, p1, q1, hg1, ht1, hv1, hd1, ⟨g2, t2, cs2, fu2, p2, q2, hg2, ht2, hv2, hd2, ⟨g3, t3, cs3, fu3, p3, q3, hg3, ht3, hv3, hd3, ⟨g4, t4, cs4, fu4, p4, q4, hg4, ht4, hv4, hd4, ⟨g5, t5, cs5, fu5, p5, q5, hg5, ht5, hv5, hd5, ⟨g6, t6, cs6, fu6, p6, q6, hg6, ht6, hv6, hd6, ⟨g7, t7, cs7, fu7, p7, q7, hg7, ht7, hv7, hd7, ⟨g8, t8, cs8, fu8, p8, q8, hg8, ht8, hv8, hd8, _, _⟩, _⟩, _⟩, _⟩, _⟩, _⟩, _⟩, _⟩, _⟩ := h'
  have n2 : Tryz.prog.globalNamed "math/bits.deBruijn64tab" = some 7 := by kernel_rfl
  have n6 : Tryz.prog.globalNamed "foresight/signal.keys" = some 0 := by kernel_rfl
  have n7 : Tryz.prog.globalNamed "foresight/lexer.spans" = some 1 := by kernel_rfl
  have n8 : Tryz.prog.globalNamed "foresight/lexer.symbols" = some 2 := by kernel_rfl
  have y6 : (Tryz.prog.globals[0]?).map (·.type) = some 103 := by kernel_rfl
  have y7 : (Tryz.prog.globals[1]?).map (·.type) = some 124 := by kernel_rfl
  have y8 : (Tryz.prog.globals[2]?).map (·.type) = some 133 := by kernel_rfl
  obtain rfl := Option.some.inj (n6.symm.trans hg6)
  obtain rfl := Option.some.inj (n7.symm.trans hg7)
  obtain rfl := Option.some.inj (n8.symm.trans hg8)
  obtain rfl := Option.some.inj (y6.symm.trans ht6)
  obtain rfl := Option.some.inj (y7.symm.trans ht7)
  obtain rfl := Option.some.inj (y8.symm.trans ht8)
  refine ⟨⟨?_, ?_, ?_⟩, ?_⟩
  · obtain ⟨hl, m, hp⟩ := trod_arr (ds := spansL.map spanD) Tryz.underlying124 (by kernel_rfl : Tryz.prog.cellsOf 123 = 3) (by kernel_rfl) hd7
    intro j u hu
    have hj : j < 48 := (List.getElem?_eq_some_iff.1 hu).1
    obtain ⟨p, hsp⟩ : ∃ p, spansL[j / 3]? = some p := ⟨_, List.getElem?_eq_getElem (by show j / 3 < 16; omega)⟩
    obtain ⟨d, q, hd, ht⟩ := hp (j / 3) (by omega)
    rw [List.getElem?_map, hsp] at hd
    cases hd
    have e1 := span_piece ht
    have e2 := spanC_at spansL (j / 3) p hsp
    obtain ⟨v, hr⟩ : ∃ v, (spanC1 p)[j % 3]? = some v := ⟨_, List.getElem?_eq_getElem (by show j % 3 < 3; omega)⟩
    have c1 := cell_of_piece e1 hr
    have c2 := cell_of_piece e2 hr
    rw [show j / 3 * 3 + j % 3 = j by omega] at c1 c2
    have hu' : (spansL.flatMap spanC1)[j]? = some u := hu
    rw [c2] at hu'
    rw [Nat.zero_add, World.var?_cell n7 hv7 j]
    rw [← hu', ← c1]
    simp
  · obtain ⟨hl, m, hp⟩ := trod_arr (ds := symsL.map fun l => .lit (.string l)) Tryz.underlying133 (by kernel_rfl : Tryz.prog.cellsOf 9 = 1) (by kernel_rfl) hd8
    intro j u hu
    have hj : j < 15 := (List.getElem?_eq_some_iff.1 hu).1
    obtain ⟨p, hsp⟩ : ∃ p, symsL[j]? = some p := ⟨_, List.getElem?_eq_getElem hj⟩
    obtain ⟨d, q, hd, ht⟩ := hp j hj
    rw [List.getElem?_map, hsp] at hd
    cases hd
    have c1 := cell_of_piece (r := 0) (sym_piece ht) rfl
    have hu' : (symsL.map strV)[j]? = some u := hu
    rw [List.getElem?_map, hsp] at hu'
    cases hu'
    rw [Nat.zero_add, World.var?_cell n8 hv8 j]
    simpa using c1
  · have hv := hv2
    simp only [World.var?, n2, Option.bind_some] at hv
    split at hv
    · rename_i e
      have := (Array.getElem?_eq_some_iff.1 e).1
      omega
    · cases hv
  · obtain ⟨hl, m, hp⟩ := trod_arr (ds := keysL.map fun l => .lit (.string l)) Tryz.underlying103 (by kernel_rfl : Tryz.prog.cellsOf 9 = 1) (by kernel_rfl) hd6
    intro j u hu
    have hj : j < 10 := (List.getElem?_eq_some_iff.1 hu).1
    obtain ⟨p, hsp⟩ : ∃ p, keysL[j]? = some p := ⟨_, List.getElem?_eq_getElem hj⟩
    obtain ⟨d, q, hd, ht⟩ := hp j hj
    rw [List.getElem?_map, hsp] at hd
    cases hd
    have c1 := cell_of_piece (r := 0) (sym_piece ht) rfl
    have hu' : (keysL.map strV)[j]? = some u := hu
    rw [List.getElem?_map, hsp] at hu'
    cases hu'
    rw [Nat.zero_add, World.var?_cell n6 hv6 j]
    simpa using c1

set_option maxRecDepth 100000 in
/-- a law's step: what is left is its walk, from a world where the listed variables hold what is listed -/
theorem law_liftedL {os : Os} (started : os.Started) {k : FuncId} {fn : Func} {s : ChangeSpec} {conds : List PathCond} {fresh : Bool} {H : Type} {enc : TypeId × Value → H} (F : Stop.Interp) (noInit : Tryz.prog.inits.idxOf? k = none) (hfn : Tryz.prog.funcs[k]? = some fn)
    (witness : ∃ (w : World) (tape : Tape) (i : Input), w.os = os ∧ (w.forCall tape i).Shaped Tryz.prog ∧ i.vars = [] ∧ Input.okWide Tryz.prog (w.forCall tape i) .any w.heap.size k i ∧
      (OpenSpec.ofChange s).preRow enc Tryz.prog fn conds false laidL (w.forCall tape i).memory i.args ∧ ({} : Assume).holds Tryz.prog (lone (Frame.enter Tryz.prog k i.args .normal) [] (w.forCall tape i)))
    (hs : s.vars = []) (hts : (fn.params.toList.all fun t => decide (t < Tryz.prog.types.size)) = true) (hrt : fn.resultTypes = #[4])
    (hspec : ∀ ds : List (DataW H), ds.length = fn.params.toList.length → s.fn H ds = { results := [.lit (.bool true)], args := ds })
    (law : ∀ (W : World) (base : Nat) (args : List Value) (ds : List (DataW H)) (p : List MemPlace), (∀ (j : Nat) t v, fn.params.toList[j]? = some t → args[j]? = some v → Value.okWide Tryz.prog W .any base t v) →
      DataW.TrodAll enc Tryz.prog W 0 (fun _ => true) true fn.params.toList args ds p → GK W → Fn Tryz.prog k args W fun v w' => v = .bool true ∧ Ext W w') :
    ReturnsInHanded {} Tryz.checked os k .any ((OpenSpec.ofChange s).preRow enc Tryz.prog fn conds false laidL) (((OpenSpec.ofChange s).at F).post enc Tryz.prog fn false fresh false false) := by
  refine returnsInHanded_of_row (C := Tryz.checked) (s := OpenSpec.ofChange s) own started noInit hfn witness ?_
  intro W base args ds gs before hval hW _ _ _ hL _ _
  have hW' : DataW.Whole enc Tryz.prog fn.params.toList s.vars false W args.toList ds gs before := hW
  obtain ⟨p, q, hA, hV, rfl, hf, hn⟩ := hW
  have hg : gs = [] := by
    have hV' : DataW.TrodVars enc Tryz.prog W (fun _ => true) s.vars gs q := hV
    rw [hs] at hV'
    cases gs with
    | nil => rfl
    | cons _ _ => exact hV'.elim
  subst hg
  have hlen : ∀ {ts : List TypeId} {vs : List Value} {ds : List (DataW H)} {ps : List MemPlace}, DataW.TrodAll enc Tryz.prog W 0 (fun _ => true) true ts vs ds ps → ds.length = ts.length := by
    intro ts
    induction ts with
    | nil => intro vs ds ps h; obtain ⟨rfl, rfl, rfl⟩ := trodAll_nil h; rfl
    | cons t ts ih => intro vs ds ps h; obtain ⟨v, vs1, d, ds1, a, b, rfl, rfl, rfl, h1, h2⟩ := trodAll_cons h; simp [ih h2]
  refine Calls.mono (law W base args.toList ds p (fun j t v h1 h2 => hval j t v (Array.getElem?_toList.symm.trans h1) (Array.getElem?_toList.symm.trans h2)) hA (gk_of_laid hL)) fun e W' he => ?_
  cases e with
  | returned v =>
    refine ⟨v, rfl, post_of_ext kids full (fun t ht => of_decide_eq_true (List.all_eq_true.1 hts t ht)) hs hW' ?_ hrt Tryz.underlying4 he.1 he.2⟩
    rw [List.append_nil]; exact hspec ds (hlen hA)
  | panicked ch => exact he.elim
  | outgrown => exact he.elim

def layC (cs : List Value) : Obj → Obj
  | .cells _ t frozen => .cells cs.toArray t frozen
  | o => o
def tabC : DataW Unit → List Value
  | .agg l => l.map fun d => match d with | .lit (.int k z) => .int k z | _ => .bool false
  | _ => []
/-- a world for the witness -/
noncomputable def laidWorld (os : Os) : World :=
  let w := World.holding Tryz.prog os ⟨#[.cells #[strV [118, 97, 108, 117, 101, 32, 111, 117, 116, 32, 111, 102, 32, 114, 97, 110, 103, 101]] 162, .cells #[strV [105, 110, 118, 97, 108, 105, 100, 32, 115, 121, 110, 116, 97, 120]] 162], #[], []⟩
  { w with heap := ((((((((w.heap.modify 1 (layC spanC)).modify 2 (layC symC)).modify 0 (layC keyC)).modify 4 (layC [.iface 160 (.pointer (some ⟨13, 0, none⟩))])).modify 3 (layC [.iface 160 (.pointer (some ⟨14, 0, none⟩))])).modify 5 (layC (tabC Rows.laid_internal_strconv_uint64pow10))).modify 6 (layC (tabC Rows.laid_math_bits_deBruijn32tab))).modify 7 (layC (tabC Rows.laid_math_bits_deBruijn64tab))) }
theorem laidLow (os : Os) : (World.settled Tryz.prog os).heap.size = 13 := by kernel_rfl
end Go.Proofs.YtmnhnbpnjepkbaaGreatDoor

namespace Go.Proofs.YtmnhnbpnjepkbaaGreatDoor
open Go.ChangeShapes Go.WideShapes Go.ChangeAt Go.RowKit
open Go.ChangeMaps (open_string)

section
variable {H : Type} {enc : TypeId × Value → H} {P : Program} {W : World} {sp : Nat → Bool} {hd : Bool}

theorem cells8_of (zs : List Int) (h : ∀ n ∈ zs, (Lit.int .u8 n).wf = true) : ∃ l : List UInt8, l.length = zs.length ∧ ∀ i, i < zs.length → Value.int .u8 (zs.getD i 0) = enc8 (l.getD i 0) := by
  refine ⟨zs.map fun n => UInt8.ofNat n.toNat, by simp, fun i hi => ?_⟩
  have := h zs[i] (List.getElem_mem hi)
  have hx : 0 ≤ zs[i] ∧ zs[i] ≤ 255 := by simpa [Lit.wf, IntKind.min, IntKind.max, IntKind.signed, IntKind.bits] using this
  simp only [enc8, List.getD_eq_getElem?_getD, List.getElem?_map, List.getElem?_eq_getElem hi, Option.map_some, Option.getD_some, UInt8.toNat_ofNat']
  congr 1
  omega

theorem open_bytes {t e : TypeId} {fuel : Nat} {cs : List Value} {x : DataW H × List MemPlace} (ht : P.underlying t = some (.slice e)) (he : P.underlying e = some (.int .u8)) (hc : P.cellsOf e = 1)
    (h : DataW.trod enc P W 0 sp hd fuel t cs = some x) : ∃ v l, cs = [v] ∧ BytesAt anyB W v l := by
  rcases open_ints ht he hc h with ⟨rfl, _⟩ | ⟨a, len, cap, zs, rfl, _, hl, hm, hz, _, hcell, hw⟩
  · exact ⟨_, [], rfl, none, 0, rfl, Nat.le_refl _, by omega, fun _ => rfl, .inl rfl⟩
  · obtain ⟨l, hll, hli⟩ := cells8_of zs hw
    have hzl : len ≤ zs.length := by rw [hz]; split <;> omega
    refine ⟨_, l.take len, rfl, some a, cap, ?_, ?_, ?_, (fun h => by cases h), ?_⟩
    · simp; omega
    · simp; omega
    · simp only [maxLen] at hm; omega
    · by_cases h0 : len = 0
      · left; simp [h0]
      · right
        have hsub : a.spot = none := by
          exact spot_none (a := a.add 0) (hcell 0 (by omega))
        obtain ⟨b, off, s⟩ := a
        simp only at hsub
        subst hsub
        refine ⟨b, off, rfl, trivial, fun i u hu => ?_⟩
        have hi : i < len := by
          have := (List.getElem?_eq_some_iff.1 hu).1
          rw [cells8_length] at this; simp at this; omega
        rw [cells8_get (by simp; omega)] at hu
        cases hu
        have h1 := hcell i (by omega)
        rw [Addr.add_lit, hli i (by omega)] at h1
        rw [h1]
        congr 2
        simp [List.getD_eq_getElem?_getD, hi]

end
end Go.Proofs.YtmnhnbpnjepkbaaGreatDoor

namespace Go.Proofs.YtmnhnbpnjepkbaaGreatDoor
open Go.ChangeShapes Go.WideShapes Go.ChangeAt Go.RowKit
open Go.ChangeMaps (open_string)
set_option linter.unusedVariables false

set_option maxRecDepth 100000 in
theorem ParserGaps_open {H : Type} {enc : TypeId × Value → H} (W : World) (base : Nat) (args : List Value) (ds : List (DataW H)) (p : List MemPlace) (hval : ∀ (j : Nat) t v, Tryz.f3.params.toList[j]? = some t → args[j]? = some v → Value.okWide Tryz.prog W .any base t v)
    (hA : DataW.TrodAll enc Tryz.prog W 0 (fun _ => true) true Tryz.f3.params.toList args ds p) (hG : GK W) : Fn Tryz.prog 3 args W fun v w' => v = .bool true ∧ Ext W w' := by
  rw [Tryz.params3] at hA hval
  obtain ⟨v0, _, d0, _, p0, q0, rfl, rfl, rfl, h0, r0⟩ := trodAll_cons hA
  obtain ⟨v1, _, d1, _, p1, q1, rfl, rfl, rfl, ⟨n1, h1⟩, r1⟩ := trodAll_cons r0
  obtain ⟨rfl, rfl, rfl⟩ := trodAll_nil r1
  obtain ⟨s0, rfl, _, _, _⟩ := open_string Tryz.underlying9 (hval 0 _ v0 rfl rfl) h0
  obtain ⟨u1, l1, e1, b1⟩ := open_bytes Tryz.underlying22 Tryz.underlying5 (by kernel_rfl) h1
  obtain rfl := val_one Tryz.underlying22 (hval 1 _ v1 rfl rfl) e1
  exact pgaps_ok W s0.data.toList v1 l1 b1 hG

theorem ParserGaps_laidMet (os : Os) : laidMet Tryz.prog laidL ((laidWorld os).forCall (fun _ _ => 0) ⟨#[], #[.string .empty, .slice none 0 0], []⟩).memory := laidMet_of_run' 8 (by kernel_rfl) (by kernel_rfl)
theorem ParserGaps_reads (os : Os) {H : Type} (enc : TypeId × Value → H) : ∃ places, DataW.whole enc Tryz.prog ((laidWorld os).forCall (fun _ _ => 0) ⟨#[], #[.string .empty, .slice none 0 0], []⟩).memory Tryz.f3.params.toList Rows.parserGapsSpec.vars false #[.string .empty, .slice none 0 0].toList 8 = some ([.lit (.string []), .nil], [], places) := ⟨[], by kernel_rfl⟩
set_option maxRecDepth 100000 in
theorem ParserGaps_lifted (os : Os) (started : os.Started) (H : Type) (enc : TypeId × Value → H) (F : Stop.Interp) :
    ReturnsInHanded {} Tryz.checked os 3 .any ((OpenSpec.ofChange Rows.parserGapsSpec).preRow enc Tryz.prog Tryz.f3 Rows.parserGapsRow.domain false Rows.parserGapsRow.laid) (((OpenSpec.ofChange Rows.parserGapsSpec).at F).post enc Tryz.prog Tryz.f3 false true false false) := by
  obtain ⟨places, hx⟩ := ParserGaps_reads os enc
  exact law_liftedL started F (by kernel_rfl) Tryz.func3
    (witness_row_atRef (enc := enc) (C := Tryz.checked) false (laidWorld os) #[.string .empty, .slice none 0 0] rfl (by kernel_rfl) (by kernel_rfl) (by kernel_rfl)
      (OpenSpec.preRow_of_cond 8 hx (by kernel_rfl) (fun k hk => by cases hk) (by kernel_rfl) (ParserGaps_laidMet os))) rfl (by kernel_rfl) (by kernel_rfl)
    (fun ds h => by
      match ds, h with
      | [d1, d2], _ => rfl) ParserGaps_open
theorem ParserGaps_said : Rows.ParserGapsSaid :=
  OpenClaim.holds_of_cond 3 Tryz.f3 rfl rfl rfl rfl rfl rfl rfl ⟨rfl, rfl, rfl, rfl, rfl⟩ rfl rfl rfl rfl rfl (by kernel_rfl) Tryz.func3 (by kernel_rfl)
    (of_decide_eq_true (by kernel_rfl)) (by unfold Func.isWrapper; first | (rw [if_pos (by decide +kernel)]; kernel_rfl) | (rw [if_neg (by decide +kernel)]; exact ⟨rfl, rfl⟩))
    (fun os started H enc _ F => by rw [OpenClaim.pre_eq_preRow]; exact ParserGaps_lifted os started H enc F)
theorem ParserGaps_plain (f : FuncId) (fn : Func) (hf : Tryz.pinned.checked.prog.funcNamed "foresight/foresightlaw05.ParserGaps" = some f) (hfn : Tryz.pinned.checked.prog.funcs[f]? = some fn) :
    true = Tryz.pinned.checked.prog.looks [] ∧ ∀ (j : Nat) t, fn.params[j]? = some t → Tryz.pinned.checked.prog.wantsStandIn t = false := by
  obtain rfl : f = 3 := Option.some.inj ((show Tryz.prog.funcNamed "foresight/foresightlaw05.ParserGaps" = some 3 by kernel_rfl).symm.trans hf) |>.symm
  obtain rfl : fn = Tryz.f3 := (Option.some.inj (Tryz.func3.symm.trans hfn)).symm
  refine ⟨by kernel_rfl, fun j t ht => ?_⟩
  have hall : (Tryz.f3.params.toList.all fun t => !Tryz.prog.wantsStandIn t) = true := by kernel_rfl
  have := List.all_eq_true.1 hall t (by simpa using Array.mem_of_getElem? ht)
  exact Bool.not_eq_true' _ |>.mp this
theorem ParserGaps_proved : Rows.ParserGapsCardSaid :=
  Claim7.holds_tied_plain_at .later [] _ _ _ _ ParserGaps_said (fun _ h => by cases h) (by kernel_rfl) (fun _ h => by cases h) parserGaps_row_tie rfl ⟨rfl, rfl⟩ (by kernel_rfl) rfl ParserGaps_plain (by kernel_rfl)
end Go.Proofs.YtmnhnbpnjepkbaaGreatDoor
