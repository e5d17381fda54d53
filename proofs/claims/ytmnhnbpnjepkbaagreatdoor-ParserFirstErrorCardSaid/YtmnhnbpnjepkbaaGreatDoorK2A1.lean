/- The parser's plain law: the first wrong token. The walk through ParserFirstError. A law's close: what the walk gives, as the row wants it; the common part. A law's close where the row lists the parser's variables: what the list gives, the witness, the law's step. ParserFirstError: for every input the law returns true and each argument reads as it did. Conditions: none. -/
import Derived.Test.YtmnhnbpnjepkbaaGreatDoorK1A15
import Derived.WalkKit
import Derived.ProofKit
import Derived.OpenShut
import Derived.JoinedCond
import Derived.ChangeStays
import Derived.ReadAgain
import Derived.Deep.Slices
import Derived.Test.YtmnhnbpnjepkbaaGreatDoorCards
import Derived.Test.YtmnhnbpnjepkbaaGreatDoorTie
import Derived.Deep.DeepWitnessRowRef
import Derived.Lib.LaidTab

namespace Go.Proofs.YtmnhnbpnjepkbaaGreatDoor
set_option linter.unusedVariables false

theorem take_snoc {α : Type} {l : List α} {k : Nat} {x : α} (h : l[k]? = some x) : l.take (k + 1) = l.take k ++ [x] := by
  rw [List.take_add_one, h]; rfl
/-- the scan stands ahead of each token, and behind it -/
theorem reach_at {t : List UInt8} {ts : List Tok} (h : lexM t = .ok ts) : ∀ k, k < ts.length → ∃ x, ts[k]? = some x ∧ Reach1 t 0 [] x.loc (ts.take k) ∧ Reach1 t (x.loc + x.text.length) (ts.take (k + 1)) t.length ts ∧
    x.loc + x.text.length ≤ t.length ∧ 1 ≤ x.text.length ∧ ∀ j y, j < k → ts[j]? = some y → y.loc + y.text.length ≤ x.loc := by
  obtain ⟨hl, hr⟩ := lexM_ok h
  intro k
  induction k with
  | zero =>
    intro hk
    obtain ⟨x, g1, g2, g3, g4, g5, g6⟩ := hr.first (Nat.le_refl _) hk
    refine ⟨x, g1, g2, ?_, g5, g4, fun j y hj => by omega⟩
    rw [take_snoc (k := 0) g1]; exact g6
  | succ k ih =>
    intro hk
    obtain ⟨x, g1, g2, g3, g4, g5, g6⟩ := ih (by omega)
    have hlen : (ts.take (k + 1)).length = k + 1 := by simp; omega
    obtain ⟨y, q1, q2, q3, q4, q5, q6⟩ := g3.first (Nat.le_refl _) (by omega)
    rw [hlen] at q1
    obtain ⟨z, r1, r2, r3⟩ := hr.tok k (by simp) (by omega)
    rw [g1] at r1; cases r1
    refine ⟨y, q1, r2.trans q2, ?_, q5, q4, fun j u hj hu => ?_⟩
    · rw [take_snoc q1]; exact q6
    · have hle := q2.le
      by_cases hjk : j = k
      · subst hjk; rw [g1] at hu; cases hu; exact hle
      · have := g6 j u (by omega) hu
        omega
/-- the text ahead of a token has the tokens ahead of it -/
theorem lexM_before {t : List UInt8} {ts : List Tok} {k : Nat} {x : Tok} (h : lexM t = .ok ts) (hk : ts[k]? = some x) : lexM (t.take x.loc) = .ok (ts.take k) := by
  have hlt : k < ts.length := (List.getElem?_eq_some_iff.1 hk).1
  obtain ⟨y, g1, g2, g3, g4, g5, g6⟩ := reach_at h k hlt
  rw [hk] at g1; cases g1
  have hl := (lexM_ok h).1
  have e : (t.take x.loc).length = x.loc := by simp; omega
  refine lexM_reach (by rw [e]; omega) ?_
  rw [e]
  exact g2.take (Nat.le_refl _) (by omega)
theorem lexM_upto {t : List UInt8} {ts : List Tok} {k : Nat} {x : Tok} (h : lexM t = .ok ts) (hk : ts[k]? = some x) : x.loc + x.text.length ≤ t.length ∧ lexM (t.take (x.loc + x.text.length)) = .ok (ts.take (k + 1)) := by
  obtain ⟨y, g1, g2, g3⟩ := ok_upto h (List.getElem?_eq_some_iff.1 hk).1
  rw [hk] at g1; cases g1
  exact ⟨g2, g3⟩
theorem loc_inj {t : List UInt8} {ts : List Tok} {i j : Nat} {x y : Tok} (h : lexM t = .ok ts) (hi : ts[i]? = some x) (hj : ts[j]? = some y) (e : x.loc = y.loc) : i = j := by
  obtain ⟨x', a1, _, _, _, a5, a6⟩ := reach_at h i (List.getElem?_eq_some_iff.1 hi).1
  obtain ⟨y', b1, _, _, _, b5, b6⟩ := reach_at h j (List.getElem?_eq_some_iff.1 hj).1
  rw [hi] at a1; cases a1
  rw [hj] at b1; cases b1
  rcases Nat.lt_trichotomy i j with h1 | h1 | h1
  · have := b6 i x h1 hi; omega
  · exact h1
  · have := a6 j y h1 hj; omega
theorem end_loc {nt : NT} {t : List UInt8} {ts : List Tok} {o : Out nt.T} (h : PRes nt t o) (hm : lexM t = .ok ts) (he : Out.errno o = 51) : Out.loc o = t.length := by
  unfold PRes at h
  rw [hm] at h
  obtain ⟨a, h1, rfl⟩ := h
  cases a with
  | ok y => cases he
  | error l =>
    cases l with
    | nil => rfl
    | cons x l => cases he
theorem first_error {nt : NT} {t : List UInt8} {ts : List Tok} {o o1 o2 : Out nt.T} {i : Nat} {x : Tok} (h : PRes nt t o) (hm : lexM t = .ok ts) (hx : ts[i]? = some x)
    (h1 : PRes nt (t.take (x.loc + x.text.length)) o1) (h2 : PRes nt (t.take x.loc) o2) (he : Out.errno o = 50) (hl : Out.loc o = x.loc) :
    Out.errno o1 = 50 ∧ Out.loc o1 = x.loc ∧ (Out.errno o2 = 0 ∨ Out.errno o2 = 51) := by
  unfold PRes at h h1 h2
  rw [hm] at h
  rw [(lexM_upto hm hx).2] at h1
  rw [lexM_before hm hx] at h2
  obtain ⟨a, ha, rfl⟩ := h
  obtain ⟨b, hb, rfl⟩ := h1
  obtain ⟨c, hc, rfl⟩ := h2
  cases a with
  | ok y => cases he
  | error l =>
    cases l with
    | nil => cases he
    | cons y r =>
      have hyl : y.loc = x.loc := Int.ofNat_inj.1 hl
      obtain ⟨l1, rfl⟩ : (y :: r) <:+ ts := ha.suffix
      have hy : (l1 ++ y :: r)[l1.length]? = some y := by simp
      obtain rfl := loc_inj hm hx hy hyl.symm
      rw [hx] at hy; cases hy
      have e1 : (l1 ++ x :: r).take (l1.length + 1) = l1 ++ [x] := by rw [take_snoc hx]; simp
      have e2 : (l1 ++ x :: r).take l1.length = l1 := by simp
      rw [e1] at hb
      rw [e2] at hc
      have hb' : Run (whole nt) (l1 ++ x :: []) (.error ([] ++ x :: [])) := Run.aheadE (l1' := []) [] ha
      cases hb.det hb'
      have hn := Run.before ha hc
      refine ⟨rfl, rfl, ?_⟩
      cases c with
      | ok y => exact .inl rfl
      | error l =>
        have : l = [] := hn
        subst this
        exact .inr rfl
end Go.Proofs.YtmnhnbpnjepkbaaGreatDoor

namespace Go.Proofs.YtmnhnbpnjepkbaaGreatDoor
open Go.RowKit
set_option linter.unusedVariables false

theorem parsed_form (w : World) (t : List UInt8) (hG : GK w) : Fn Tryz.prog 12 [strV t] w fun v w' => Ext w w' ∧ ∃ (oS : Out Spc) (oF : Out Fml) (oD : Out Edt) (x0 x1 x2 x3 x4 x5 x6 x7 x8 x9 xa xb xc xd xe xf : Value),
    PRes .spec t oS ∧ PRes .formula t oF ∧ PRes .edit t oD ∧ ResV w' v oS oF oD ∧
    v = .agg [x0, x1, x2, x3, x4, x5, x6, x7, x8, x9, xa, xb, xc, xd, xe, xf, .int .i64 oS.errno, .int .i64 oF.errno, .int .i64 oD.errno, .int .i64 oS.loc, .int .i64 oF.loc, .int .i64 oD.loc].toArray ∧
    oneC [x0, x1, x2, x3, x4, x5, x6, x7, x8, x9, xa, xb, xc, xd, xe, xf, .int .i64 oS.errno, .int .i64 oF.errno, .int .i64 oD.errno, .int .i64 oS.loc, .int .i64 oF.loc, .int .i64 oD.loc] := by
  refine Fn.mono (parsed_ok w t hG) ?_
  rintro v w' ⟨k, oS, oF, oD, pS, pF, pD, hv⟩
  obtain ⟨cs, cf, cd, rfl, fS, fF, fD⟩ := id hv
  have l1 : cs.length = 2 := spcR.len fS
  have l2 : cf.length = 5 := fmlR.len fF
  have l3 : cd.length = 9 := edtR.len fD
  have e1 := spcR.one fS
  have e2 := fmlR.one fF
  have e3 := edtR.one fD
  obtain ⟨s0, s1, rfl⟩ := cells2 l1
  obtain ⟨g0, g1, g2, g3, g4, rfl⟩ := cells5 l2
  obtain ⟨d0, d1, d2, d3, d4, d5, d6, d7, d8, rfl⟩ := cells9 l3
  refine ⟨k, oS, oF, oD, s0, s1, g0, g1, g2, g3, g4, d0, d1, d2, d3, d4, d5, d6, d7, d8, pS, pF, pD, hv, rfl, ?_⟩
  intro u hu
  have hu' : u ∈ [s0, s1] ++ ([g0, g1, g2, g3, g4] ++ ([d0, d1, d2, d3, d4, d5, d6, d7, d8] ++ [Value.int .i64 (Out.errno oS), .int .i64 (Out.errno oF), .int .i64 (Out.errno oD), .int .i64 (Out.loc oS), .int .i64 (Out.loc oF), .int .i64 (Out.loc oD)])) := hu
  rcases List.mem_append.1 hu' with h | h
  · exact e1 u h
  rcases List.mem_append.1 h with h | h
  · exact e2 u h
  rcases List.mem_append.1 h with h | h
  · exact e3 u h
  simp only [List.mem_cons, List.not_mem_nil, or_false] at h
  rcases h with rfl | rfl | rfl | rfl | rfl | rfl <;> rfl
theorem early_ok (w : World) (e : Int) : Fn Tryz.prog 15 [.int .i64 e] w fun v w' => v = .bool (decide (e = 0 ∨ e = 51)) ∧ w' = w := by
  refine fn_of_wc Tryz.func15 rfl Tryz.ntmps15 (Nat.le_of_ble_eq_true rfl) (by kernel_rfl) ?_
  repeat' first | refine nx ?_ | refine C_cond_t rfl ?_ | refine C_cond_f rfl ?_ | refine Q_block_on rfl ?_
  (refine C_region ?_
   <;> (refine M_assign ?_; (first | refine M_bool rfl ?_ | refine W_move ?_))
   <;> refine W_nil ?_)
  repeat' first | refine nx ?_ | refine C_cond_t rfl ?_ | refine C_cond_f rfl ?_ | refine Q_block_on rfl ?_
  by_cases h0 : e = 0
  · (refine C_region ?_
     <;> (first | refine M_int rfl ?_ | refine W_move ?_)
     <;> (refine W_eql rfl rfl (fun hc => ?_) (fun hc => ?_) <;> try (exfalso; omega))
     <;> (first | refine M_bool rfl ?_ | refine W_move ?_)
     <;> (first | refine W_no rfl ?_ | (refine W_yes rfl ?_; (first | refine M_int rfl ?_ | refine W_move ?_)))
     <;> (first | refine W_no rfl ?_ | (refine W_yes rfl ?_; (refine W_eql rfl rfl (fun hc => ?_) (fun hc => ?_) <;> try (exfalso; omega))))
     <;> ((first | refine M_pick_t rfl ?_ | refine M_pick_f rfl ?_); (first | refine M_bool rfl ?_ | refine W_move ?_))
     <;> (refine M_assign ?_; (first | refine M_bool rfl ?_ | refine W_move ?_))
     <;> refine W_nil ?_)
    repeat' first | refine nx ?_ | refine C_cond_t rfl ?_ | refine C_cond_f rfl ?_ | refine Q_block_on rfl ?_
    exact fin_ret1 rfl ⟨by rw [decide_eq_true (.inl h0)]; rfl, rfl⟩
  · by_cases h1 : e = 51
    · (refine C_region ?_
       <;> (first | refine M_int rfl ?_ | refine W_move ?_)
       <;> (refine W_eql rfl rfl (fun hc => ?_) (fun hc => ?_) <;> try (exfalso; omega))
       <;> (first | refine M_bool rfl ?_ | refine W_move ?_)
       <;> (first | refine W_no rfl ?_ | (refine W_yes rfl ?_; (first | refine M_int rfl ?_ | refine W_move ?_)))
       <;> (first | refine W_no rfl ?_ | (refine W_yes rfl ?_; (refine W_eql rfl rfl (fun hc => ?_) (fun hc => ?_) <;> try (exfalso; omega))))
       <;> ((first | refine M_pick_t rfl ?_ | refine M_pick_f rfl ?_); (first | refine M_bool rfl ?_ | refine W_move ?_))
       <;> (refine M_assign ?_; (first | refine M_bool rfl ?_ | refine W_move ?_))
       <;> refine W_nil ?_)
      repeat' first | refine nx ?_ | refine C_cond_t rfl ?_ | refine C_cond_f rfl ?_ | refine Q_block_on rfl ?_
      exact fin_ret1 rfl ⟨by rw [decide_eq_true (.inr h1)]; rfl, rfl⟩
    · (refine C_region ?_
       <;> (first | refine M_int rfl ?_ | refine W_move ?_)
       <;> (refine W_eql rfl rfl (fun hc => ?_) (fun hc => ?_) <;> try (exfalso; omega))
       <;> (first | refine M_bool rfl ?_ | refine W_move ?_)
       <;> (first | refine W_no rfl ?_ | (refine W_yes rfl ?_; (first | refine M_int rfl ?_ | refine W_move ?_)))
       <;> (first | refine W_no rfl ?_ | (refine W_yes rfl ?_; (refine W_eql rfl rfl (fun hc => ?_) (fun hc => ?_) <;> try (exfalso; omega))))
       <;> ((first | refine M_pick_t rfl ?_ | refine M_pick_f rfl ?_); (first | refine M_bool rfl ?_ | refine W_move ?_))
       <;> (refine M_assign ?_; (first | refine M_bool rfl ?_ | refine W_move ?_))
       <;> refine W_nil ?_)
      repeat' first | refine nx ?_ | refine C_cond_t rfl ?_ | refine C_cond_f rfl ?_ | refine Q_block_on rfl ?_
      exact fin_ret1 rfl ⟨by rw [decide_eq_false (by omega)]; rfl, rfl⟩

set_option maxHeartbeats 3200000 in
set_option maxRecDepth 20000 in
theorem first_ok (w : World) (t : List UInt8) (hG : GK w) : Fn Tryz.prog 4 [strV t] w fun v w' => v = .bool true ∧ Ext w w' := by
  refine fn_of_wc Tryz.func4 rfl Tryz.ntmps4 (Nat.le_of_ble_eq_true rfl) (by kernel_rfl) ?_
  repeat' first | refine nx ?_ | refine C_cond_t rfl ?_ | refine C_cond_f rfl ?_ | refine Q_block_on rfl ?_
  (refine C_region ?_
   <;> (refine M_assign ?_; (first | refine M_bool rfl ?_ | refine W_move ?_))
   <;> refine W_nil ?_)
  repeat' first | refine nx ?_ | refine C_cond_t rfl ?_ | refine C_cond_f rfl ?_ | refine Q_block_on rfl ?_
  (refine C_region ?_)
  -- at operation 0: <dst=(some 12) op=(call <callee=(value (func 9)) args=[] argTypes=[]>) type=4 guard=none>
  refine W_call (head_ok w hG) rfl ?_
  rintro v w1 ⟨rfl, k1⟩
  ((refine M_assign ?_; (first | refine M_bool rfl ?_ | refine W_move ?_))
   <;> refine W_nil ?_)
  repeat' first | refine nx ?_ | refine C_cond_t rfl ?_ | refine C_cond_f rfl ?_ | refine Q_block_on rfl ?_
  by_cases hs : 6000 < t.length
  · (refine C_region ?_
     <;> (first | refine M_str rfl ?_ | refine W_move ?_)
     <;> refine W_slen rfl ?_
     <;> (refine W_gtr rfl rfl (fun hc => ?_) (fun hc => ?_) <;> try (exfalso; omega))
     <;> refine W_nil ?_)
    repeat' first | refine nx ?_ | refine C_cond_t rfl ?_ | refine C_cond_f rfl ?_ | refine Q_block_on rfl ?_
    (refine C_region ?_
     <;> (first | refine M_bool rfl ?_ | refine W_move ?_)
     <;> (refine M_assign ?_; (first | refine M_bool rfl ?_ | refine W_move ?_))
     <;> refine W_nil ?_)
    repeat' first | refine nx ?_ | refine C_cond_t rfl ?_ | refine C_cond_f rfl ?_ | refine Q_block_on rfl ?_
    exact fin_ret1 rfl ⟨rfl, k1⟩
  (refine C_region ?_
   <;> (first | refine M_str rfl ?_ | refine W_move ?_)
   <;> refine W_slen rfl ?_
   <;> (refine W_gtr rfl rfl (fun hc => ?_) (fun hc => ?_) <;> try (exfalso; omega))
   <;> refine W_nil ?_)
  repeat' first | refine nx ?_ | refine C_cond_t rfl ?_ | refine C_cond_f rfl ?_ | refine Q_block_on rfl ?_
  (refine C_region ?_
   <;> (first | refine M_str rfl ?_ | refine W_move ?_))
  -- at operation 1: <dst=(some 19) op=(call <callee=(value (func 10)) args=[(tmp 18)] argTypes=[9]>) type=26 guard=none>
  refine W_call (reflex_ok w1 t) rfl ?_
  rintro _ wl ⟨a, c, e, q, ts, rfl, kl, hT, h⟩
  have k2 := k1.trans kl
  ((first | refine M_tuple rfl ?_ | refine W_move ?_)
   <;> refine W_extract rfl rfl ?_
   <;> refine W_extract rfl rfl ?_
   <;> refine W_extract rfl rfl ?_
   <;> (refine M_assign ?_; (first | refine M_slice rfl ?_ | refine W_move ?_))
   <;> (refine M_assign ?_; (first | refine M_int rfl ?_ | refine W_move ?_))
   <;> (refine M_assign ?_; (first | refine M_int rfl ?_ | refine W_move ?_))
   <;> refine W_nil ?_)
  repeat' first | refine nx ?_ | refine C_cond_t rfl ?_ | refine C_cond_f rfl ?_ | refine Q_block_on rfl ?_
  rcases h with ⟨hm, rfl, rfl⟩ | ⟨p, hm, he, rfl, rfl⟩
  case inr =>
    (refine C_region ?_
     <;> (first | refine M_int rfl ?_ | refine W_move ?_)
     <;> (refine W_neq rfl rfl (fun hc => ?_) (fun hc => ?_) <;> try (exfalso; omega))
     <;> (first | refine M_bool rfl ?_ | refine W_move ?_)
     <;> (first | refine W_no rfl ?_ | (refine W_yes rfl ?_; (first | refine M_slice rfl ?_ | refine W_move ?_)))
     <;> (first | refine W_no rfl ?_ | (refine W_yes rfl ?_; refine W_len rfl ?_))
     <;> (first | refine W_no rfl ?_ | (refine W_yes rfl ?_; (refine W_gtr rfl rfl (fun hc => ?_) (fun hc => ?_) <;> try (exfalso; omega))))
     <;> ((first | refine M_pick_t rfl ?_ | refine M_pick_f rfl ?_); (first | refine M_bool rfl ?_ | refine W_move ?_))
     <;> refine W_nil ?_)
    repeat' first | refine nx ?_ | refine C_cond_t rfl ?_ | refine C_cond_f rfl ?_ | refine Q_block_on rfl ?_
    (refine C_region ?_
     <;> (first | refine M_bool rfl ?_ | refine W_move ?_)
     <;> (refine M_assign ?_; (first | refine M_bool rfl ?_ | refine W_move ?_))
     <;> refine W_nil ?_)
    repeat' first | refine nx ?_ | refine C_cond_t rfl ?_ | refine C_cond_f rfl ?_ | refine Q_block_on rfl ?_
    exact fin_ret1 rfl ⟨rfl, k2⟩
  by_cases h60 : 60 < ts.length
  · (refine C_region ?_
     <;> (first | refine M_int rfl ?_ | refine W_move ?_)
     <;> (refine W_neq rfl rfl (fun hc => ?_) (fun hc => ?_) <;> try (exfalso; omega))
     <;> (first | refine M_bool rfl ?_ | refine W_move ?_)
     <;> (first | refine W_no rfl ?_ | (refine W_yes rfl ?_; (first | refine M_slice rfl ?_ | refine W_move ?_)))
     <;> (first | refine W_no rfl ?_ | (refine W_yes rfl ?_; refine W_len rfl ?_))
     <;> (first | refine W_no rfl ?_ | (refine W_yes rfl ?_; (refine W_gtr rfl rfl (fun hc => ?_) (fun hc => ?_) <;> try (exfalso; omega))))
     <;> ((first | refine M_pick_t rfl ?_ | refine M_pick_f rfl ?_); (first | refine M_bool rfl ?_ | refine W_move ?_))
     <;> refine W_nil ?_)
    repeat' first | refine nx ?_ | refine C_cond_t rfl ?_ | refine C_cond_f rfl ?_ | refine Q_block_on rfl ?_
    (refine C_region ?_
     <;> (first | refine M_bool rfl ?_ | refine W_move ?_)
     <;> (refine M_assign ?_; (first | refine M_bool rfl ?_ | refine W_move ?_))
     <;> refine W_nil ?_)
    repeat' first | refine nx ?_ | refine C_cond_t rfl ?_ | refine C_cond_f rfl ?_ | refine Q_block_on rfl ?_
    exact fin_ret1 rfl ⟨rfl, k2⟩
  (refine C_region ?_
   <;> (first | refine M_int rfl ?_ | refine W_move ?_)
   <;> (refine W_neq rfl rfl (fun hc => ?_) (fun hc => ?_) <;> try (exfalso; omega))
   <;> (first | refine M_bool rfl ?_ | refine W_move ?_)
   <;> (first | refine W_no rfl ?_ | (refine W_yes rfl ?_; (first | refine M_slice rfl ?_ | refine W_move ?_)))
   <;> (first | refine W_no rfl ?_ | (refine W_yes rfl ?_; refine W_len rfl ?_))
   <;> (first | refine W_no rfl ?_ | (refine W_yes rfl ?_; (refine W_gtr rfl rfl (fun hc => ?_) (fun hc => ?_) <;> try (exfalso; omega))))
   <;> ((first | refine M_pick_t rfl ?_ | refine M_pick_f rfl ?_); (first | refine M_bool rfl ?_ | refine W_move ?_))
   <;> refine W_nil ?_)
  repeat' first | refine nx ?_ | refine C_cond_t rfl ?_ | refine C_cond_f rfl ?_ | refine Q_block_on rfl ?_
  (refine C_region ?_
   <;> (first | refine M_str rfl ?_ | refine W_move ?_))
  -- at operation 1: <dst=(some 32) op=(call <callee=(value (func 12)) args=[(tmp 31)] argTypes=[9]>) type=45 guard=none>
  refine W_call (parsed_form wl t (hG.ext k2)) rfl ?_
  rintro _ w3 ⟨k3, oS, oF, oD, x0, x1, x2, x3, x4, x5, x6, x7, x8, x9, xa, xb, xc, xd, xe, xf, pS, pF, pD, _, rfl, hone⟩
  skip
  -- at operation 2: <dst=(some 7) op=(alloc 45) type=0 guard=none>
  refine W_newAgg (cs := [x0, x1, x2, x3, x4, x5, x6, x7, x8, x9, xa, xb, xc, xd, xe, xf, .int .i64 oS.errno, .int .i64 oF.errno, .int .i64 oD.errno, .int .i64 oS.loc, .int .i64 oF.loc, .int .i64 oD.loc]) rfl rfl (by rfl) hone (fun w4 n4 => ?_)
  have b4 := n4.blk
  have k4 : Ext wl w4 := k3.trans n4.keep
  have hT4 := hT.ext k4
  have k24 := k2.trans k4
  refine W_nil ?_
  repeat' first | refine nx ?_ | refine C_cond_t rfl ?_ | refine C_cond_f rfl ?_ | refine Q_block_on rfl ?_
  have eS := end_loc pS hm
  have eF := end_loc pF hm
  have eD := end_loc pD hm
  refine C_mid (α := Unit) (fun _ => [(0, strV t), (3, .bool true), (4, .slice a ts.length c), (7, pt w3.heap.size), (66, .bool false)]) (fun _ W => w4 = W) ?_ ?_
  · by_cases q1 : oS.errno = 51 <;> by_cases q2 : oF.errno = 51 <;> by_cases q3 : oD.errno = 51
    all_goals
      first | have eS := eS q1 | skip
      first | have eF := eF q2 | skip
      first | have eD := eD q3 | skip
      (refine C_region ?_
       <;> refine W_fieldAddr rfl ?_
       <;> (first | refine W_load rfl (Blk.cell (by assumption) (by rfl)) ?_ | refine W_load rfl (by assumption) ?_)
       <;> (refine W_eql rfl rfl (fun hc => ?_) (fun hc => ?_) <;> try (exfalso; omega))
       <;> (first | refine M_bool rfl ?_ | refine W_move ?_)
       <;> (first | refine W_no rfl ?_ | (refine W_yes rfl ?_; refine W_fieldAddr rfl ?_))
       <;> (first | refine W_no rfl ?_ | (refine W_yes rfl ?_; (first | refine W_load rfl (Blk.cell (by assumption) (by rfl)) ?_ | refine W_load rfl (by assumption) ?_)))
       <;> (first | refine W_no rfl ?_ | (refine W_yes rfl ?_; (first | refine M_str rfl ?_ | refine W_move ?_)))
       <;> (first | refine W_no rfl ?_ | (refine W_yes rfl ?_; refine W_slen rfl ?_))
       <;> (first | refine W_no rfl ?_ | (refine W_yes rfl ?_; (refine W_neq rfl rfl (fun hc => ?_) (fun hc => ?_) <;> try (exfalso; omega))))
       <;> ((first | refine M_pick_t rfl ?_ | refine M_pick_f rfl ?_); (first | refine M_bool rfl ?_ | refine W_move ?_))
       <;> (first | refine M_bool rfl ?_ | refine W_move ?_)
       <;> (first | refine W_no rfl ?_ | (refine W_yes rfl ?_; refine W_fieldAddr rfl ?_))
       <;> (first | refine W_no rfl ?_ | (refine W_yes rfl ?_; (first | refine W_load rfl (Blk.cell (by assumption) (by rfl)) ?_ | refine W_load rfl (by assumption) ?_)))
       <;> (first | refine W_no rfl ?_ | (refine W_yes rfl ?_; (refine W_eql rfl rfl (fun hc => ?_) (fun hc => ?_) <;> try (exfalso; omega))))
       <;> (first | refine W_no rfl ?_ | (refine W_yes rfl ?_; (first | refine M_bool rfl ?_ | refine W_move ?_)))
       <;> (first | refine W_no rfl ?_ | (refine W_yes rfl ?_; refine W_fieldAddr rfl ?_))
       <;> (first | refine W_no rfl ?_ | (refine W_yes rfl ?_; (first | refine W_load rfl (Blk.cell (by assumption) (by rfl)) ?_ | refine W_load rfl (by assumption) ?_)))
       <;> (first | refine W_no rfl ?_ | (refine W_yes rfl ?_; (first | refine M_str rfl ?_ | refine W_move ?_)))
       <;> (first | refine W_no rfl ?_ | (refine W_yes rfl ?_; refine W_slen rfl ?_))
       <;> (first | refine W_no rfl ?_ | (refine W_yes rfl ?_; (refine W_neq rfl rfl (fun hc => ?_) (fun hc => ?_) <;> try (exfalso; omega))))
       <;> (first | refine W_no rfl ?_ | (refine W_yes rfl ?_; ((first | refine M_pick_t rfl ?_ | refine M_pick_f rfl ?_); (first | refine M_bool rfl ?_ | refine W_move ?_))))
       <;> ((first | refine M_pick_t rfl ?_ | refine M_pick_f rfl ?_); (first | refine M_bool rfl ?_ | refine W_move ?_))
       <;> (first | refine M_bool rfl ?_ | refine W_move ?_)
       <;> (first | refine W_no rfl ?_ | (refine W_yes rfl ?_; refine W_fieldAddr rfl ?_))
       <;> (first | refine W_no rfl ?_ | (refine W_yes rfl ?_; (first | refine W_load rfl (Blk.cell (by assumption) (by rfl)) ?_ | refine W_load rfl (by assumption) ?_)))
       <;> (first | refine W_no rfl ?_ | (refine W_yes rfl ?_; (refine W_eql rfl rfl (fun hc => ?_) (fun hc => ?_) <;> try (exfalso; omega))))
       <;> (first | refine W_no rfl ?_ | (refine W_yes rfl ?_; (first | refine M_bool rfl ?_ | refine W_move ?_)))
       <;> (first | refine W_no rfl ?_ | (refine W_yes rfl ?_; refine W_fieldAddr rfl ?_))
       <;> (first | refine W_no rfl ?_ | (refine W_yes rfl ?_; (first | refine W_load rfl (Blk.cell (by assumption) (by rfl)) ?_ | refine W_load rfl (by assumption) ?_)))
       <;> (first | refine W_no rfl ?_ | (refine W_yes rfl ?_; (first | refine M_str rfl ?_ | refine W_move ?_)))
       <;> (first | refine W_no rfl ?_ | (refine W_yes rfl ?_; refine W_slen rfl ?_))
       <;> (first | refine W_no rfl ?_ | (refine W_yes rfl ?_; (refine W_neq rfl rfl (fun hc => ?_) (fun hc => ?_) <;> try (exfalso; omega))))
       <;> (first | refine W_no rfl ?_ | (refine W_yes rfl ?_; ((first | refine M_pick_t rfl ?_ | refine M_pick_f rfl ?_); (first | refine M_bool rfl ?_ | refine W_move ?_))))
       <;> ((first | refine M_pick_t rfl ?_ | refine M_pick_f rfl ?_); (first | refine M_bool rfl ?_ | refine W_move ?_))
       <;> refine W_nil ?_)
      exact Q_join () ⟨rfl, rfl, rfl, rfl, rfl, trivial⟩ rfl
  rintro _ _ f4 rfl
  repeat' first | refine nx ?_ | refine C_cond_t rfl ?_ | refine C_cond_f rfl ?_ | refine Q_block_on rfl ?_
  (refine C_region ?_
   <;> (refine M_assign ?_; (first | refine M_int rfl ?_ | refine W_move ?_))
   <;> refine W_nil ?_)
  repeat' first | refine nx ?_ | refine C_cond_t rfl ?_ | refine C_cond_f rfl ?_ | refine Q_block_on rfl ?_
  refine C_loop (α := Nat) (fun k => [(0, strV t), (3, .bool true), (4, .slice a ts.length c), (7, pt w3.heap.size), (8, .int .i64 (k : Int))])
    (fun k W => k ≤ ts.length ∧ Ext w4 W) (fun k => ts.length - k) 0 ⟨rfl, rfl, rfl, rfl, rfl, trivial⟩ ⟨by simp, Ext.refl _⟩ ?_
  rintro k w5 f5 ⟨hk, k5⟩
  repeat' first | refine nx ?_ | refine C_cond_t rfl ?_ | refine C_cond_f rfl ?_ | refine Q_block_on rfl ?_
  by_cases hlt : k < ts.length
  · obtain ⟨x, hx⟩ : ∃ x, ts[k]? = some x := ⟨_, List.getElem?_eq_getElem hlt⟩
    obtain ⟨b, o, rfl, hc⟩ := (hT4.ext k5).at hx
    have hc1 := hc 1 _ rfl
    have hc2 := hc 2 _ rfl
    obtain ⟨hxl, _⟩ := lexM_upto hm hx
    have b5 := b4.keep k5 (by simp)
    have hcap : ts.length ≤ c ∧ c ≤ 9223372036854775807 := by obtain ⟨_, _, hv, h1, h2, _⟩ := id hT; cases hv; exact ⟨h1, h2⟩
    (refine C_region ?_
     <;> (first | refine M_int rfl ?_ | refine W_move ?_)
     <;> (first | refine M_slice rfl ?_ | refine W_move ?_)
     <;> refine W_len rfl ?_
     <;> (refine W_lss rfl rfl (fun hc => ?_) (fun hc => ?_) <;> try (exfalso; omega))
     <;> refine W_nil ?_)
    repeat' first | refine nx ?_ | refine C_cond_t rfl ?_ | refine C_cond_f rfl ?_ | refine Q_block_on rfl ?_
    (refine C_region ?_
     <;> (first | refine M_slice rfl ?_ | refine W_move ?_)
     <;> (first | refine M_int rfl ?_ | refine W_move ?_)
     <;> (first | refine W_idx1 rfl rfl rfl (by omega) ?_ | refine W_idx rfl rfl rfl (by omega) ?_ | refine W_indexAddr rfl rfl (by omega) (by omega) ?_)
     <;> refine W_fieldAddr rfl ?_
     <;> (first | refine W_load rfl (Blk.cell (by assumption) (by rfl)) ?_ | refine W_load rfl (by assumption) ?_)
     <;> (refine M_assign ?_; (first | refine M_int rfl ?_ | refine W_move ?_))
     <;> refine W_nil ?_)
    repeat' first | refine nx ?_ | refine C_cond_t rfl ?_ | refine C_cond_f rfl ?_ | refine Q_block_on rfl ?_
    (refine C_region ?_
     <;> (first | refine M_str rfl ?_ | refine W_move ?_)
     <;> (first | refine M_int rfl ?_ | refine W_move ?_)
     <;> (first | refine M_slice rfl ?_ | refine W_move ?_)
     <;> (first | refine M_int rfl ?_ | refine W_move ?_)
     <;> (first | refine W_idx1 rfl rfl rfl (by omega) ?_ | refine W_idx rfl rfl rfl (by omega) ?_ | refine W_indexAddr rfl rfl (by omega) (by omega) ?_)
     <;> refine W_fieldAddr rfl ?_
     <;> (first | refine W_load rfl (Blk.cell (by assumption) (by rfl)) ?_ | refine W_load rfl (by assumption) ?_)
     <;> refine W_slen rfl ?_
     <;> refine W_add rfl rfl (by first | exact inR_i64 (by omega) (by omega) | exact inR_u8 (by omega) (by omega) | exact inR_u16 (by omega) (by omega)) ?_)
    refine W_sslice_h (l := x.loc + x.text.length) rfl rfl hxl ?_
    refine W_call (parsed_form w5 (t.take (x.loc + x.text.length)) (hG.ext (k24.trans k5))) rfl ?_
    rintro _ v1 ⟨l1, oS1, oF1, oD1, y0, y1, y2, y3, y4, y5, y6, y7, y8, y9, ya, yb, yc, yd, ye, yf, pS1, pF1, pD1, _, rfl, hone1⟩
    skip
    -- at operation 11: <dst=(some 10) op=(alloc 45) type=0 guard=none>
    refine W_newAgg (cs := [y0, y1, y2, y3, y4, y5, y6, y7, y8, y9, ya, yb, yc, yd, ye, yf, .int .i64 oS1.errno, .int .i64 oF1.errno, .int .i64 oD1.errno, .int .i64 oS1.loc, .int .i64 oF1.loc, .int .i64 oD1.loc]) rfl rfl (by rfl) hone1 (fun v2 m2 => ?_)
    have c2 := m2.blk
    have l2 := l1.trans m2.keep
    refine W_nil ?_
    repeat' first | refine nx ?_ | refine C_cond_t rfl ?_ | refine C_cond_f rfl ?_ | refine Q_block_on rfl ?_
    (refine C_region ?_
     <;> (first | refine M_str rfl ?_ | refine W_move ?_)
     <;> (first | refine M_int rfl ?_ | refine W_move ?_))
    refine W_sslice_h (l := x.loc) rfl rfl (by omega) ?_
    refine W_call (parsed_form v2 (t.take x.loc) (hG.ext ((k24.trans k5).trans l2))) rfl ?_
    rintro _ v3 ⟨l3, oS2, oF2, oD2, z0, z1, z2, z3, z4, z5, z6, z7, z8, z9, za, zb, zc, zd, ze, zf, pS2, pF2, pD2, _, rfl, hone2⟩
    skip
    -- at operation 4: <dst=(some 11) op=(alloc 45) type=0 guard=none>
    refine W_newAgg (cs := [z0, z1, z2, z3, z4, z5, z6, z7, z8, z9, za, zb, zc, zd, ze, zf, .int .i64 oS2.errno, .int .i64 oF2.errno, .int .i64 oD2.errno, .int .i64 oS2.loc, .int .i64 oF2.loc, .int .i64 oD2.loc]) rfl rfl (by rfl) hone2 (fun v4 m4 => ?_)
    have d4 := m4.blk
    have l34 := l3.trans m4.keep
    have c4 := c2.keep l34 (by simp)
    have l4 := l2.trans l34
    have b6 := b5.keep l4 (by simp)
    refine W_nil ?_
    repeat' first | refine nx ?_ | refine C_cond_t rfl ?_ | refine C_cond_f rfl ?_ | refine Q_block_on rfl ?_
    have fS := first_error pS hm hx pS1 pS2
    have fF := first_error pF hm hx pF1 pF2
    have fD := first_error pD hm hx pD1 pD2
    clear eS eF eD c2 b5 n4 m2 m4 hone hone1 hone2
    refine C_mid (α := Unit) (fun _ => [(0, strV t), (3, .bool true), (4, .slice (some ⟨b, o, none⟩) ts.length c), (7, pt w3.heap.size), (8, .int .i64 (k : Int)), (9, .int .i64 (x.loc : Int)), (10, pt v1.heap.size), (11, pt v3.heap.size), (120, .bool false)]) (fun _ W => v4 = W) ?_ ?_
    · by_cases hA : oS.errno = 50 ∧ oS.loc = x.loc
      · obtain ⟨f1, f2, f3⟩ := fS hA.1 hA.2
        (refine C_region ?_
         <;> refine W_fieldAddr rfl ?_
         <;> (first | refine W_load rfl (Blk.cell (by assumption) (by rfl)) ?_ | refine W_load rfl (by assumption) ?_)
         <;> (refine W_eql rfl rfl (fun hc => ?_) (fun hc => ?_) <;> try (exfalso; omega))
         <;> (first | refine M_bool rfl ?_ | refine W_move ?_)
         <;> (first | refine W_no rfl ?_ | (refine W_yes rfl ?_; refine W_fieldAddr rfl ?_))
         <;> (first | refine W_no rfl ?_ | (refine W_yes rfl ?_; (first | refine W_load rfl (Blk.cell (by assumption) (by rfl)) ?_ | refine W_load rfl (by assumption) ?_)))
         <;> (first | refine W_no rfl ?_ | (refine W_yes rfl ?_; (first | refine M_int rfl ?_ | refine W_move ?_)))
         <;> (first | refine W_no rfl ?_ | (refine W_yes rfl ?_; (refine W_eql rfl rfl (fun hc => ?_) (fun hc => ?_) <;> try (exfalso; omega))))
         <;> ((first | refine M_pick_t rfl ?_ | refine M_pick_f rfl ?_); (first | refine M_bool rfl ?_ | refine W_move ?_))
         <;> (first | refine M_bool rfl ?_ | refine W_move ?_)
         <;> (first | refine W_no rfl ?_ | (refine W_yes rfl ?_; refine W_fieldAddr rfl ?_))
         <;> (first | refine W_no rfl ?_ | (refine W_yes rfl ?_; (first | refine W_load rfl (Blk.cell (by assumption) (by rfl)) ?_ | refine W_load rfl (by assumption) ?_)))
         <;> (first | refine W_no rfl ?_ | (refine W_yes rfl ?_; refine W_fieldAddr rfl ?_))
         <;> (first | refine W_no rfl ?_ | (refine W_yes rfl ?_; (first | refine W_load rfl (Blk.cell (by assumption) (by rfl)) ?_ | refine W_load rfl (by assumption) ?_)))
         <;> (first | refine W_no rfl ?_ | (refine W_yes rfl ?_; (refine W_neq rfl rfl (fun hc => ?_) (fun hc => ?_) <;> try (exfalso; omega))))
         <;> (first | refine W_no rfl ?_ | (refine W_yes rfl ?_; (first | refine M_bool rfl ?_ | refine W_move ?_)))
         <;> (first | refine W_no rfl ?_ | (refine W_yes rfl ?_; refine W_fieldAddr rfl ?_))
         <;> (first | refine W_no rfl ?_ | (refine W_yes rfl ?_; (first | refine W_load rfl (Blk.cell (by assumption) (by rfl)) ?_ | refine W_load rfl (by assumption) ?_)))
         <;> (first | refine W_no rfl ?_ | (refine W_yes rfl ?_; (first | refine M_int rfl ?_ | refine W_move ?_)))
         <;> (first | refine W_no rfl ?_ | (refine W_yes rfl ?_; (refine W_neq rfl rfl (fun hc => ?_) (fun hc => ?_) <;> try (exfalso; omega))))
         <;> (first | refine W_no rfl ?_ | (refine W_yes rfl ?_; ((first | refine M_pick_t rfl ?_ | refine M_pick_f rfl ?_); (first | refine M_bool rfl ?_ | refine W_move ?_))))
         <;> (first | refine W_no rfl ?_ | (refine W_yes rfl ?_; (first | refine M_bool rfl ?_ | refine W_move ?_)))
         <;> (first | refine W_no rfl ?_ | (refine W_yes rfl ?_; refine W_fieldAddr rfl ?_))
         <;> (first | refine W_no rfl ?_ | (refine W_yes rfl ?_; (first | refine W_load rfl (Blk.cell (by assumption) (by rfl)) ?_ | refine W_load rfl (by assumption) ?_))))
        (refine W_yes rfl ?_; refine W_call (early_ok v4 oS2.errno) rfl ?_)
        rintro _ v5 ⟨rfl, rfl⟩
        rw [decide_eq_true f3]
        ((first | refine W_no rfl ?_ | (refine W_yes rfl ?_; refine W_not rfl ?_))
         <;> (first | refine W_no rfl ?_ | (refine W_yes rfl ?_; ((first | refine M_pick_t rfl ?_ | refine M_pick_f rfl ?_); (first | refine M_bool rfl ?_ | refine W_move ?_))))
         <;> ((first | refine M_pick_t rfl ?_ | refine M_pick_f rfl ?_); (first | refine M_bool rfl ?_ | refine W_move ?_))
         <;> refine W_nil ?_)
        exact Q_join () ⟨rfl, rfl, rfl, rfl, rfl, rfl, rfl, rfl, rfl, trivial⟩ rfl
      · by_cases hB : oS.errno = 50
        · have hC : oS.loc ≠ x.loc := fun h => hA ⟨hB, h⟩
          (refine C_region ?_
           <;> refine W_fieldAddr rfl ?_
           <;> (first | refine W_load rfl (Blk.cell (by assumption) (by rfl)) ?_ | refine W_load rfl (by assumption) ?_)
           <;> (refine W_eql rfl rfl (fun hc => ?_) (fun hc => ?_) <;> try (exfalso; omega))
           <;> (first | refine M_bool rfl ?_ | refine W_move ?_)
           <;> (first | refine W_no rfl ?_ | (refine W_yes rfl ?_; refine W_fieldAddr rfl ?_))
           <;> (first | refine W_no rfl ?_ | (refine W_yes rfl ?_; (first | refine W_load rfl (Blk.cell (by assumption) (by rfl)) ?_ | refine W_load rfl (by assumption) ?_)))
           <;> (first | refine W_no rfl ?_ | (refine W_yes rfl ?_; (first | refine M_int rfl ?_ | refine W_move ?_)))
           <;> (first | refine W_no rfl ?_ | (refine W_yes rfl ?_; (refine W_eql rfl rfl (fun hc => ?_) (fun hc => ?_) <;> try (exfalso; omega))))
           <;> ((first | refine M_pick_t rfl ?_ | refine M_pick_f rfl ?_); (first | refine M_bool rfl ?_ | refine W_move ?_))
           <;> (first | refine M_bool rfl ?_ | refine W_move ?_)
           <;> (first | refine W_no rfl ?_ | (refine W_yes rfl ?_; refine W_fieldAddr rfl ?_))
           <;> (first | refine W_no rfl ?_ | (refine W_yes rfl ?_; (first | refine W_load rfl (Blk.cell (by assumption) (by rfl)) ?_ | refine W_load rfl (by assumption) ?_)))
           <;> (first | refine W_no rfl ?_ | (refine W_yes rfl ?_; refine W_fieldAddr rfl ?_))
           <;> (first | refine W_no rfl ?_ | (refine W_yes rfl ?_; (first | refine W_load rfl (Blk.cell (by assumption) (by rfl)) ?_ | refine W_load rfl (by assumption) ?_)))
           <;> (first | refine W_no rfl ?_ | (refine W_yes rfl ?_; (refine W_neq rfl rfl (fun hc => ?_) (fun hc => ?_) <;> try (exfalso; omega))))
           <;> (first | refine W_no rfl ?_ | (refine W_yes rfl ?_; (first | refine M_bool rfl ?_ | refine W_move ?_)))
           <;> (first | refine W_no rfl ?_ | (refine W_yes rfl ?_; refine W_fieldAddr rfl ?_))
           <;> (first | refine W_no rfl ?_ | (refine W_yes rfl ?_; (first | refine W_load rfl (Blk.cell (by assumption) (by rfl)) ?_ | refine W_load rfl (by assumption) ?_)))
           <;> (first | refine W_no rfl ?_ | (refine W_yes rfl ?_; (first | refine M_int rfl ?_ | refine W_move ?_)))
           <;> (first | refine W_no rfl ?_ | (refine W_yes rfl ?_; (refine W_neq rfl rfl (fun hc => ?_) (fun hc => ?_) <;> try (exfalso; omega))))
           <;> (first | refine W_no rfl ?_ | (refine W_yes rfl ?_; ((first | refine M_pick_t rfl ?_ | refine M_pick_f rfl ?_); (first | refine M_bool rfl ?_ | refine W_move ?_))))
           <;> (first | refine W_no rfl ?_ | (refine W_yes rfl ?_; (first | refine M_bool rfl ?_ | refine W_move ?_)))
           <;> (first | refine W_no rfl ?_ | (refine W_yes rfl ?_; refine W_fieldAddr rfl ?_))
           <;> (first | refine W_no rfl ?_ | (refine W_yes rfl ?_; (first | refine W_load rfl (Blk.cell (by assumption) (by rfl)) ?_ | refine W_load rfl (by assumption) ?_))))
          (refine W_no rfl ?_
           <;> (first | refine W_no rfl ?_ | (refine W_yes rfl ?_; refine W_not rfl ?_))
           <;> (first | refine W_no rfl ?_ | (refine W_yes rfl ?_; ((first | refine M_pick_t rfl ?_ | refine M_pick_f rfl ?_); (first | refine M_bool rfl ?_ | refine W_move ?_))))
           <;> ((first | refine M_pick_t rfl ?_ | refine M_pick_f rfl ?_); (first | refine M_bool rfl ?_ | refine W_move ?_))
           <;> refine W_nil ?_)
          exact Q_join () ⟨rfl, rfl, rfl, rfl, rfl, rfl, rfl, rfl, rfl, trivial⟩ rfl
        · (refine C_region ?_
           <;> refine W_fieldAddr rfl ?_
           <;> (first | refine W_load rfl (Blk.cell (by assumption) (by rfl)) ?_ | refine W_load rfl (by assumption) ?_)
           <;> (refine W_eql rfl rfl (fun hc => ?_) (fun hc => ?_) <;> try (exfalso; omega))
           <;> (first | refine M_bool rfl ?_ | refine W_move ?_)
           <;> (first | refine W_no rfl ?_ | (refine W_yes rfl ?_; refine W_fieldAddr rfl ?_))
           <;> (first | refine W_no rfl ?_ | (refine W_yes rfl ?_; (first | refine W_load rfl (Blk.cell (by assumption) (by rfl)) ?_ | refine W_load rfl (by assumption) ?_)))
           <;> (first | refine W_no rfl ?_ | (refine W_yes rfl ?_; (first | refine M_int rfl ?_ | refine W_move ?_)))
           <;> (first | refine W_no rfl ?_ | (refine W_yes rfl ?_; (refine W_eql rfl rfl (fun hc => ?_) (fun hc => ?_) <;> try (exfalso; omega))))
           <;> ((first | refine M_pick_t rfl ?_ | refine M_pick_f rfl ?_); (first | refine M_bool rfl ?_ | refine W_move ?_))
           <;> (first | refine M_bool rfl ?_ | refine W_move ?_)
           <;> (first | refine W_no rfl ?_ | (refine W_yes rfl ?_; refine W_fieldAddr rfl ?_))
           <;> (first | refine W_no rfl ?_ | (refine W_yes rfl ?_; (first | refine W_load rfl (Blk.cell (by assumption) (by rfl)) ?_ | refine W_load rfl (by assumption) ?_)))
           <;> (first | refine W_no rfl ?_ | (refine W_yes rfl ?_; refine W_fieldAddr rfl ?_))
           <;> (first | refine W_no rfl ?_ | (refine W_yes rfl ?_; (first | refine W_load rfl (Blk.cell (by assumption) (by rfl)) ?_ | refine W_load rfl (by assumption) ?_)))
           <;> (first | refine W_no rfl ?_ | (refine W_yes rfl ?_; (refine W_neq rfl rfl (fun hc => ?_) (fun hc => ?_) <;> try (exfalso; omega))))
           <;> (first | refine W_no rfl ?_ | (refine W_yes rfl ?_; (first | refine M_bool rfl ?_ | refine W_move ?_)))
           <;> (first | refine W_no rfl ?_ | (refine W_yes rfl ?_; refine W_fieldAddr rfl ?_))
           <;> (first | refine W_no rfl ?_ | (refine W_yes rfl ?_; (first | refine W_load rfl (Blk.cell (by assumption) (by rfl)) ?_ | refine W_load rfl (by assumption) ?_)))
           <;> (first | refine W_no rfl ?_ | (refine W_yes rfl ?_; (first | refine M_int rfl ?_ | refine W_move ?_)))
           <;> (first | refine W_no rfl ?_ | (refine W_yes rfl ?_; (refine W_neq rfl rfl (fun hc => ?_) (fun hc => ?_) <;> try (exfalso; omega))))
           <;> (first | refine W_no rfl ?_ | (refine W_yes rfl ?_; ((first | refine M_pick_t rfl ?_ | refine M_pick_f rfl ?_); (first | refine M_bool rfl ?_ | refine W_move ?_))))
           <;> (first | refine W_no rfl ?_ | (refine W_yes rfl ?_; (first | refine M_bool rfl ?_ | refine W_move ?_)))
           <;> (first | refine W_no rfl ?_ | (refine W_yes rfl ?_; refine W_fieldAddr rfl ?_))
           <;> (first | refine W_no rfl ?_ | (refine W_yes rfl ?_; (first | refine W_load rfl (Blk.cell (by assumption) (by rfl)) ?_ | refine W_load rfl (by assumption) ?_))))
          (refine W_no rfl ?_
           <;> (first | refine W_no rfl ?_ | (refine W_yes rfl ?_; refine W_not rfl ?_))
           <;> (first | refine W_no rfl ?_ | (refine W_yes rfl ?_; ((first | refine M_pick_t rfl ?_ | refine M_pick_f rfl ?_); (first | refine M_bool rfl ?_ | refine W_move ?_))))
           <;> ((first | refine M_pick_t rfl ?_ | refine M_pick_f rfl ?_); (first | refine M_bool rfl ?_ | refine W_move ?_))
           <;> refine W_nil ?_)
          exact Q_join () ⟨rfl, rfl, rfl, rfl, rfl, rfl, rfl, rfl, rfl, trivial⟩ rfl
    rintro _ _ _ rfl
    repeat' first | refine nx ?_ | refine C_cond_t rfl ?_ | refine C_cond_f rfl ?_ | refine Q_block_on rfl ?_
    refine C_mid (α := Unit) (fun _ => [(0, strV t), (3, .bool true), (4, .slice (some ⟨b, o, none⟩) ts.length c), (7, pt w3.heap.size), (8, .int .i64 (k : Int)), (9, .int .i64 (x.loc : Int)), (10, pt v1.heap.size), (11, pt v3.heap.size), (148, .bool false)]) (fun _ W => v4 = W) ?_ ?_
    · by_cases hA : oF.errno = 50 ∧ oF.loc = x.loc
      · obtain ⟨f1, f2, f3⟩ := fF hA.1 hA.2
        (refine C_region ?_
         <;> refine W_fieldAddr rfl ?_
         <;> (first | refine W_load rfl (Blk.cell (by assumption) (by rfl)) ?_ | refine W_load rfl (by assumption) ?_)
         <;> (refine W_eql rfl rfl (fun hc => ?_) (fun hc => ?_) <;> try (exfalso; omega))
         <;> (first | refine M_bool rfl ?_ | refine W_move ?_)
         <;> (first | refine W_no rfl ?_ | (refine W_yes rfl ?_; refine W_fieldAddr rfl ?_))
         <;> (first | refine W_no rfl ?_ | (refine W_yes rfl ?_; (first | refine W_load rfl (Blk.cell (by assumption) (by rfl)) ?_ | refine W_load rfl (by assumption) ?_)))
         <;> (first | refine W_no rfl ?_ | (refine W_yes rfl ?_; (first | refine M_int rfl ?_ | refine W_move ?_)))
         <;> (first | refine W_no rfl ?_ | (refine W_yes rfl ?_; (refine W_eql rfl rfl (fun hc => ?_) (fun hc => ?_) <;> try (exfalso; omega))))
         <;> ((first | refine M_pick_t rfl ?_ | refine M_pick_f rfl ?_); (first | refine M_bool rfl ?_ | refine W_move ?_))
         <;> (first | refine M_bool rfl ?_ | refine W_move ?_)
         <;> (first | refine W_no rfl ?_ | (refine W_yes rfl ?_; refine W_fieldAddr rfl ?_))
         <;> (first | refine W_no rfl ?_ | (refine W_yes rfl ?_; (first | refine W_load rfl (Blk.cell (by assumption) (by rfl)) ?_ | refine W_load rfl (by assumption) ?_)))
         <;> (first | refine W_no rfl ?_ | (refine W_yes rfl ?_; refine W_fieldAddr rfl ?_))
         <;> (first | refine W_no rfl ?_ | (refine W_yes rfl ?_; (first | refine W_load rfl (Blk.cell (by assumption) (by rfl)) ?_ | refine W_load rfl (by assumption) ?_)))
         <;> (first | refine W_no rfl ?_ | (refine W_yes rfl ?_; (refine W_neq rfl rfl (fun hc => ?_) (fun hc => ?_) <;> try (exfalso; omega))))
         <;> (first | refine W_no rfl ?_ | (refine W_yes rfl ?_; (first | refine M_bool rfl ?_ | refine W_move ?_)))
         <;> (first | refine W_no rfl ?_ | (refine W_yes rfl ?_; refine W_fieldAddr rfl ?_))
         <;> (first | refine W_no rfl ?_ | (refine W_yes rfl ?_; (first | refine W_load rfl (Blk.cell (by assumption) (by rfl)) ?_ | refine W_load rfl (by assumption) ?_)))
         <;> (first | refine W_no rfl ?_ | (refine W_yes rfl ?_; (first | refine M_int rfl ?_ | refine W_move ?_)))
         <;> (first | refine W_no rfl ?_ | (refine W_yes rfl ?_; (refine W_neq rfl rfl (fun hc => ?_) (fun hc => ?_) <;> try (exfalso; omega))))
         <;> (first | refine W_no rfl ?_ | (refine W_yes rfl ?_; ((first | refine M_pick_t rfl ?_ | refine M_pick_f rfl ?_); (first | refine M_bool rfl ?_ | refine W_move ?_))))
         <;> (first | refine W_no rfl ?_ | (refine W_yes rfl ?_; (first | refine M_bool rfl ?_ | refine W_move ?_)))
         <;> (first | refine W_no rfl ?_ | (refine W_yes rfl ?_; refine W_fieldAddr rfl ?_))
         <;> (first | refine W_no rfl ?_ | (refine W_yes rfl ?_; (first | refine W_load rfl (Blk.cell (by assumption) (by rfl)) ?_ | refine W_load rfl (by assumption) ?_))))
        (refine W_yes rfl ?_; refine W_call (early_ok v4 oF2.errno) rfl ?_)
        rintro _ v5 ⟨rfl, rfl⟩
        rw [decide_eq_true f3]
        ((first | refine W_no rfl ?_ | (refine W_yes rfl ?_; refine W_not rfl ?_))
         <;> (first | refine W_no rfl ?_ | (refine W_yes rfl ?_; ((first | refine M_pick_t rfl ?_ | refine M_pick_f rfl ?_); (first | refine M_bool rfl ?_ | refine W_move ?_))))
         <;> ((first | refine M_pick_t rfl ?_ | refine M_pick_f rfl ?_); (first | refine M_bool rfl ?_ | refine W_move ?_))
         <;> refine W_nil ?_)
        exact Q_join () ⟨rfl, rfl, rfl, rfl, rfl, rfl, rfl, rfl, rfl, trivial⟩ rfl
      · by_cases hB : oF.errno = 50
        · have hC : oF.loc ≠ x.loc := fun h => hA ⟨hB, h⟩
          (refine C_region ?_
           <;> refine W_fieldAddr rfl ?_
           <;> (first | refine W_load rfl (Blk.cell (by assumption) (by rfl)) ?_ | refine W_load rfl (by assumption) ?_)
           <;> (refine W_eql rfl rfl (fun hc => ?_) (fun hc => ?_) <;> try (exfalso; omega))
           <;> (first | refine M_bool rfl ?_ | refine W_move ?_)
           <;> (first | refine W_no rfl ?_ | (refine W_yes rfl ?_; refine W_fieldAddr rfl ?_))
           <;> (first | refine W_no rfl ?_ | (refine W_yes rfl ?_; (first | refine W_load rfl (Blk.cell (by assumption) (by rfl)) ?_ | refine W_load rfl (by assumption) ?_)))
           <;> (first | refine W_no rfl ?_ | (refine W_yes rfl ?_; (first | refine M_int rfl ?_ | refine W_move ?_)))
           <;> (first | refine W_no rfl ?_ | (refine W_yes rfl ?_; (refine W_eql rfl rfl (fun hc => ?_) (fun hc => ?_) <;> try (exfalso; omega))))
           <;> ((first | refine M_pick_t rfl ?_ | refine M_pick_f rfl ?_); (first | refine M_bool rfl ?_ | refine W_move ?_))
           <;> (first | refine M_bool rfl ?_ | refine W_move ?_)
           <;> (first | refine W_no rfl ?_ | (refine W_yes rfl ?_; refine W_fieldAddr rfl ?_))
           <;> (first | refine W_no rfl ?_ | (refine W_yes rfl ?_; (first | refine W_load rfl (Blk.cell (by assumption) (by rfl)) ?_ | refine W_load rfl (by assumption) ?_)))
           <;> (first | refine W_no rfl ?_ | (refine W_yes rfl ?_; refine W_fieldAddr rfl ?_))
           <;> (first | refine W_no rfl ?_ | (refine W_yes rfl ?_; (first | refine W_load rfl (Blk.cell (by assumption) (by rfl)) ?_ | refine W_load rfl (by assumption) ?_)))
           <;> (first | refine W_no rfl ?_ | (refine W_yes rfl ?_; (refine W_neq rfl rfl (fun hc => ?_) (fun hc => ?_) <;> try (exfalso; omega))))
           <;> (first | refine W_no rfl ?_ | (refine W_yes rfl ?_; (first | refine M_bool rfl ?_ | refine W_move ?_)))
           <;> (first | refine W_no rfl ?_ | (refine W_yes rfl ?_; refine W_fieldAddr rfl ?_))
           <;> (first | refine W_no rfl ?_ | (refine W_yes rfl ?_; (first | refine W_load rfl (Blk.cell (by assumption) (by rfl)) ?_ | refine W_load rfl (by assumption) ?_)))
           <;> (first | refine W_no rfl ?_ | (refine W_yes rfl ?_; (first | refine M_int rfl ?_ | refine W_move ?_)))
           <;> (first | refine W_no rfl ?_ | (refine W_yes rfl ?_; (refine W_neq rfl rfl (fun hc => ?_) (fun hc => ?_) <;> try (exfalso; omega))))
           <;> (first | refine W_no rfl ?_ | (refine W_yes rfl ?_; ((first | refine M_pick_t rfl ?_ | refine M_pick_f rfl ?_); (first | refine M_bool rfl ?_ | refine W_move ?_))))
           <;> (first | refine W_no rfl ?_ | (refine W_yes rfl ?_; (first | refine M_bool rfl ?_ | refine W_move ?_)))
           <;> (first | refine W_no rfl ?_ | (refine W_yes rfl ?_; refine W_fieldAddr rfl ?_))
           <;> (first | refine W_no rfl ?_ | (refine W_yes rfl ?_; (first | refine W_load rfl (Blk.cell (by assumption) (by rfl)) ?_ | refine W_load rfl (by assumption) ?_))))
          (refine W_no rfl ?_
           <;> (first | refine W_no rfl ?_ | (refine W_yes rfl ?_; refine W_not rfl ?_))
           <;> (first | refine W_no rfl ?_ | (refine W_yes rfl ?_; ((first | refine M_pick_t rfl ?_ | refine M_pick_f rfl ?_); (first | refine M_bool rfl ?_ | refine W_move ?_))))
           <;> ((first | refine M_pick_t rfl ?_ | refine M_pick_f rfl ?_); (first | refine M_bool rfl ?_ | refine W_move ?_))
           <;> refine W_nil ?_)
          exact Q_join () ⟨rfl, rfl, rfl, rfl, rfl, rfl, rfl, rfl, rfl, trivial⟩ rfl
        · (refine C_region ?_
           <;> refine W_fieldAddr rfl ?_
           <;> (first | refine W_load rfl (Blk.cell (by assumption) (by rfl)) ?_ | refine W_load rfl (by assumption) ?_)
           <;> (refine W_eql rfl rfl (fun hc => ?_) (fun hc => ?_) <;> try (exfalso; omega))
           <;> (first | refine M_bool rfl ?_ | refine W_move ?_)
           <;> (first | refine W_no rfl ?_ | (refine W_yes rfl ?_; refine W_fieldAddr rfl ?_))
           <;> (first | refine W_no rfl ?_ | (refine W_yes rfl ?_; (first | refine W_load rfl (Blk.cell (by assumption) (by rfl)) ?_ | refine W_load rfl (by assumption) ?_)))
           <;> (first | refine W_no rfl ?_ | (refine W_yes rfl ?_; (first | refine M_int rfl ?_ | refine W_move ?_)))
           <;> (first | refine W_no rfl ?_ | (refine W_yes rfl ?_; (refine W_eql rfl rfl (fun hc => ?_) (fun hc => ?_) <;> try (exfalso; omega))))
           <;> ((first | refine M_pick_t rfl ?_ | refine M_pick_f rfl ?_); (first | refine M_bool rfl ?_ | refine W_move ?_))
           <;> (first | refine M_bool rfl ?_ | refine W_move ?_)
           <;> (first | refine W_no rfl ?_ | (refine W_yes rfl ?_; refine W_fieldAddr rfl ?_))
           <;> (first | refine W_no rfl ?_ | (refine W_yes rfl ?_; (first | refine W_load rfl (Blk.cell (by assumption) (by rfl)) ?_ | refine W_load rfl (by assumption) ?_)))
           <;> (first | refine W_no rfl ?_ | (refine W_yes rfl ?_; refine W_fieldAddr rfl ?_))
           <;> (first | refine W_no rfl ?_ | (refine W_yes rfl ?_; (first | refine W_load rfl (Blk.cell (by assumption) (by rfl)) ?_ | refine W_load rfl (by assumption) ?_)))
           <;> (first | refine W_no rfl ?_ | (refine W_yes rfl ?_; (refine W_neq rfl rfl (fun hc => ?_) (fun hc => ?_) <;> try (exfalso; omega))))
           <;> (first | refine W_no rfl ?_ | (refine W_yes rfl ?_; (first | refine M_bool rfl ?_ | refine W_move ?_)))
           <;> (first | refine W_no rfl ?_ | (refine W_yes rfl ?_; refine W_fieldAddr rfl ?_))
           <;> (first | refine W_no rfl ?_ | (refine W_yes rfl ?_; (first | refine W_load rfl (Blk.cell (by assumption) (by rfl)) ?_ | refine W_load rfl (by assumption) ?_)))
           <;> (first | refine W_no rfl ?_ | (refine W_yes rfl ?_; (first | refine M_int rfl ?_ | refine W_move ?_)))
           <;> (first | refine W_no rfl ?_ | (refine W_yes rfl ?_; (refine W_neq rfl rfl (fun hc => ?_) (fun hc => ?_) <;> try (exfalso; omega))))
           <;> (first | refine W_no rfl ?_ | (refine W_yes rfl ?_; ((first | refine M_pick_t rfl ?_ | refine M_pick_f rfl ?_); (first | refine M_bool rfl ?_ | refine W_move ?_))))
           <;> (first | refine W_no rfl ?_ | (refine W_yes rfl ?_; (first | refine M_bool rfl ?_ | refine W_move ?_)))
           <;> (first | refine W_no rfl ?_ | (refine W_yes rfl ?_; refine W_fieldAddr rfl ?_))
           <;> (first | refine W_no rfl ?_ | (refine W_yes rfl ?_; (first | refine W_load rfl (Blk.cell (by assumption) (by rfl)) ?_ | refine W_load rfl (by assumption) ?_))))
          (refine W_no rfl ?_
           <;> (first | refine W_no rfl ?_ | (refine W_yes rfl ?_; refine W_not rfl ?_))
           <;> (first | refine W_no rfl ?_ | (refine W_yes rfl ?_; ((first | refine M_pick_t rfl ?_ | refine M_pick_f rfl ?_); (first | refine M_bool rfl ?_ | refine W_move ?_))))
           <;> ((first | refine M_pick_t rfl ?_ | refine M_pick_f rfl ?_); (first | refine M_bool rfl ?_ | refine W_move ?_))
           <;> refine W_nil ?_)
          exact Q_join () ⟨rfl, rfl, rfl, rfl, rfl, rfl, rfl, rfl, rfl, trivial⟩ rfl
    rintro _ _ _ rfl
    repeat' first | refine nx ?_ | refine C_cond_t rfl ?_ | refine C_cond_f rfl ?_ | refine Q_block_on rfl ?_
    refine C_mid (α := Unit) (fun _ => [(0, strV t), (3, .bool true), (4, .slice (some ⟨b, o, none⟩) ts.length c), (7, pt w3.heap.size), (8, .int .i64 (k : Int)), (9, .int .i64 (x.loc : Int)), (10, pt v1.heap.size), (11, pt v3.heap.size), (176, .bool false)]) (fun _ W => v4 = W) ?_ ?_
    · by_cases hA : oD.errno = 50 ∧ oD.loc = x.loc
      · obtain ⟨f1, f2, f3⟩ := fD hA.1 hA.2
        (refine C_region ?_
         <;> refine W_fieldAddr rfl ?_
         <;> (first | refine W_load rfl (Blk.cell (by assumption) (by rfl)) ?_ | refine W_load rfl (by assumption) ?_)
         <;> (refine W_eql rfl rfl (fun hc => ?_) (fun hc => ?_) <;> try (exfalso; omega))
         <;> (first | refine M_bool rfl ?_ | refine W_move ?_)
         <;> (first | refine W_no rfl ?_ | (refine W_yes rfl ?_; refine W_fieldAddr rfl ?_))
         <;> (first | refine W_no rfl ?_ | (refine W_yes rfl ?_; (first | refine W_load rfl (Blk.cell (by assumption) (by rfl)) ?_ | refine W_load rfl (by assumption) ?_)))
         <;> (first | refine W_no rfl ?_ | (refine W_yes rfl ?_; (first | refine M_int rfl ?_ | refine W_move ?_)))
         <;> (first | refine W_no rfl ?_ | (refine W_yes rfl ?_; (refine W_eql rfl rfl (fun hc => ?_) (fun hc => ?_) <;> try (exfalso; omega))))
         <;> ((first | refine M_pick_t rfl ?_ | refine M_pick_f rfl ?_); (first | refine M_bool rfl ?_ | refine W_move ?_))
         <;> (first | refine M_bool rfl ?_ | refine W_move ?_)
         <;> (first | refine W_no rfl ?_ | (refine W_yes rfl ?_; refine W_fieldAddr rfl ?_))
         <;> (first | refine W_no rfl ?_ | (refine W_yes rfl ?_; (first | refine W_load rfl (Blk.cell (by assumption) (by rfl)) ?_ | refine W_load rfl (by assumption) ?_)))
         <;> (first | refine W_no rfl ?_ | (refine W_yes rfl ?_; refine W_fieldAddr rfl ?_))
         <;> (first | refine W_no rfl ?_ | (refine W_yes rfl ?_; (first | refine W_load rfl (Blk.cell (by assumption) (by rfl)) ?_ | refine W_load rfl (by assumption) ?_)))
         <;> (first | refine W_no rfl ?_ | (refine W_yes rfl ?_; (refine W_neq rfl rfl (fun hc => ?_) (fun hc => ?_) <;> try (exfalso; omega))))
         <;> (first | refine W_no rfl ?_ | (refine W_yes rfl ?_; (first | refine M_bool rfl ?_ | refine W_move ?_)))
         <;> (first | refine W_no rfl ?_ | (refine W_yes rfl ?_; refine W_fieldAddr rfl ?_))
         <;> (first | refine W_no rfl ?_ | (refine W_yes rfl ?_; (first | refine W_load rfl (Blk.cell (by assumption) (by rfl)) ?_ | refine W_load rfl (by assumption) ?_)))
         <;> (first | refine W_no rfl ?_ | (refine W_yes rfl ?_; (first | refine M_int rfl ?_ | refine W_move ?_)))
         <;> (first | refine W_no rfl ?_ | (refine W_yes rfl ?_; (refine W_neq rfl rfl (fun hc => ?_) (fun hc => ?_) <;> try (exfalso; omega))))
         <;> (first | refine W_no rfl ?_ | (refine W_yes rfl ?_; ((first | refine M_pick_t rfl ?_ | refine M_pick_f rfl ?_); (first | refine M_bool rfl ?_ | refine W_move ?_))))
         <;> (first | refine W_no rfl ?_ | (refine W_yes rfl ?_; (first | refine M_bool rfl ?_ | refine W_move ?_)))
         <;> (first | refine W_no rfl ?_ | (refine W_yes rfl ?_; refine W_fieldAddr rfl ?_))
         <;> (first | refine W_no rfl ?_ | (refine W_yes rfl ?_; (first | refine W_load rfl (Blk.cell (by assumption) (by rfl)) ?_ | refine W_load rfl (by assumption) ?_))))
        (refine W_yes rfl ?_; refine W_call (early_ok v4 oD2.errno) rfl ?_)
        rintro _ v5 ⟨rfl, rfl⟩
        rw [decide_eq_true f3]
        ((first | refine W_no rfl ?_ | (refine W_yes rfl ?_; refine W_not rfl ?_))
         <;> (first | refine W_no rfl ?_ | (refine W_yes rfl ?_; ((first | refine M_pick_t rfl ?_ | refine M_pick_f rfl ?_); (first | refine M_bool rfl ?_ | refine W_move ?_))))
         <;> ((first | refine M_pick_t rfl ?_ | refine M_pick_f rfl ?_); (first | refine M_bool rfl ?_ | refine W_move ?_))
         <;> refine W_nil ?_)
        exact Q_join () ⟨rfl, rfl, rfl, rfl, rfl, rfl, rfl, rfl, rfl, trivial⟩ rfl
      · by_cases hB : oD.errno = 50
        · have hC : oD.loc ≠ x.loc := fun h => hA ⟨hB, h⟩
          (refine C_region ?_
           <;> refine W_fieldAddr rfl ?_
           <;> (first | refine W_load rfl (Blk.cell (by assumption) (by rfl)) ?_ | refine W_load rfl (by assumption) ?_)
           <;> (refine W_eql rfl rfl (fun hc => ?_) (fun hc => ?_) <;> try (exfalso; omega))
           <;> (first | refine M_bool rfl ?_ | refine W_move ?_)
           <;> (first | refine W_no rfl ?_ | (refine W_yes rfl ?_; refine W_fieldAddr rfl ?_))
           <;> (first | refine W_no rfl ?_ | (refine W_yes rfl ?_; (first | refine W_load rfl (Blk.cell (by assumption) (by rfl)) ?_ | refine W_load rfl (by assumption) ?_)))
           <;> (first | refine W_no rfl ?_ | (refine W_yes rfl ?_; (first | refine M_int rfl ?_ | refine W_move ?_)))
           <;> (first | refine W_no rfl ?_ | (refine W_yes rfl ?_; (refine W_eql rfl rfl (fun hc => ?_) (fun hc => ?_) <;> try (exfalso; omega))))
           <;> ((first | refine M_pick_t rfl ?_ | refine M_pick_f rfl ?_); (first | refine M_bool rfl ?_ | refine W_move ?_))
           <;> (first | refine M_bool rfl ?_ | refine W_move ?_)
           <;> (first | refine W_no rfl ?_ | (refine W_yes rfl ?_; refine W_fieldAddr rfl ?_))
           <;> (first | refine W_no rfl ?_ | (refine W_yes rfl ?_; (first | refine W_load rfl (Blk.cell (by assumption) (by rfl)) ?_ | refine W_load rfl (by assumption) ?_)))
           <;> (first | refine W_no rfl ?_ | (refine W_yes rfl ?_; refine W_fieldAddr rfl ?_))
           <;> (first | refine W_no rfl ?_ | (refine W_yes rfl ?_; (first | refine W_load rfl (Blk.cell (by assumption) (by rfl)) ?_ | refine W_load rfl (by assumption) ?_)))
           <;> (first | refine W_no rfl ?_ | (refine W_yes rfl ?_; (refine W_neq rfl rfl (fun hc => ?_) (fun hc => ?_) <;> try (exfalso; omega))))
           <;> (first | refine W_no rfl ?_ | (refine W_yes rfl ?_; (first | refine M_bool rfl ?_ | refine W_move ?_)))
           <;> (first | refine W_no rfl ?_ | (refine W_yes rfl ?_; refine W_fieldAddr rfl ?_))
           <;> (first | refine W_no rfl ?_ | (refine W_yes rfl ?_; (first | refine W_load rfl (Blk.cell (by assumption) (by rfl)) ?_ | refine W_load rfl (by assumption) ?_)))
           <;> (first | refine W_no rfl ?_ | (refine W_yes rfl ?_; (first | refine M_int rfl ?_ | refine W_move ?_)))
           <;> (first | refine W_no rfl ?_ | (refine W_yes rfl ?_; (refine W_neq rfl rfl (fun hc => ?_) (fun hc => ?_) <;> try (exfalso; omega))))
           <;> (first | refine W_no rfl ?_ | (refine W_yes rfl ?_; ((first | refine M_pick_t rfl ?_ | refine M_pick_f rfl ?_); (first | refine M_bool rfl ?_ | refine W_move ?_))))
           <;> (first | refine W_no rfl ?_ | (refine W_yes rfl ?_; (first | refine M_bool rfl ?_ | refine W_move ?_)))
           <;> (first | refine W_no rfl ?_ | (refine W_yes rfl ?_; refine W_fieldAddr rfl ?_))
           <;> (first | refine W_no rfl ?_ | (refine W_yes rfl ?_; (first | refine W_load rfl (Blk.cell (by assumption) (by rfl)) ?_ | refine W_load rfl (by assumption) ?_))))
          (refine W_no rfl ?_
           <;> (first | refine W_no rfl ?_ | (refine W_yes rfl ?_; refine W_not rfl ?_))
           <;> (first | refine W_no rfl ?_ | (refine W_yes rfl ?_; ((first | refine M_pick_t rfl ?_ | refine M_pick_f rfl ?_); (first | refine M_bool rfl ?_ | refine W_move ?_))))
           <;> ((first | refine M_pick_t rfl ?_ | refine M_pick_f rfl ?_); (first | refine M_bool rfl ?_ | refine W_move ?_))
           <;> refine W_nil ?_)
          exact Q_join () ⟨rfl, rfl, rfl, rfl, rfl, rfl, rfl, rfl, rfl, trivial⟩ rfl
        · (refine C_region ?_
           <;> refine W_fieldAddr rfl ?_
           <;> (first | refine W_load rfl (Blk.cell (by assumption) (by rfl)) ?_ | refine W_load rfl (by assumption) ?_)
           <;> (refine W_eql rfl rfl (fun hc => ?_) (fun hc => ?_) <;> try (exfalso; omega))
           <;> (first | refine M_bool rfl ?_ | refine W_move ?_)
           <;> (first | refine W_no rfl ?_ | (refine W_yes rfl ?_; refine W_fieldAddr rfl ?_))
           <;> (first | refine W_no rfl ?_ | (refine W_yes rfl ?_; (first | refine W_load rfl (Blk.cell (by assumption) (by rfl)) ?_ | refine W_load rfl (by assumption) ?_)))
           <;> (first | refine W_no rfl ?_ | (refine W_yes rfl ?_; (first | refine M_int rfl ?_ | refine W_move ?_)))
           <;> (first | refine W_no rfl ?_ | (refine W_yes rfl ?_; (refine W_eql rfl rfl (fun hc => ?_) (fun hc => ?_) <;> try (exfalso; omega))))
           <;> ((first | refine M_pick_t rfl ?_ | refine M_pick_f rfl ?_); (first | refine M_bool rfl ?_ | refine W_move ?_))
           <;> (first | refine M_bool rfl ?_ | refine W_move ?_)
           <;> (first | refine W_no rfl ?_ | (refine W_yes rfl ?_; refine W_fieldAddr rfl ?_))
           <;> (first | refine W_no rfl ?_ | (refine W_yes rfl ?_; (first | refine W_load rfl (Blk.cell (by assumption) (by rfl)) ?_ | refine W_load rfl (by assumption) ?_)))
           <;> (first | refine W_no rfl ?_ | (refine W_yes rfl ?_; refine W_fieldAddr rfl ?_))
           <;> (first | refine W_no rfl ?_ | (refine W_yes rfl ?_; (first | refine W_load rfl (Blk.cell (by assumption) (by rfl)) ?_ | refine W_load rfl (by assumption) ?_)))
           <;> (first | refine W_no rfl ?_ | (refine W_yes rfl ?_; (refine W_neq rfl rfl (fun hc => ?_) (fun hc => ?_) <;> try (exfalso; omega))))
           <;> (first | refine W_no rfl ?_ | (refine W_yes rfl ?_; (first | refine M_bool rfl ?_ | refine W_move ?_)))
           <;> (first | refine W_no rfl ?_ | (refine W_yes rfl ?_; refine W_fieldAddr rfl ?_))
           <;> (first | refine W_no rfl ?_ | (refine W_yes rfl ?_; (first | refine W_load rfl (Blk.cell (by assumption) (by rfl)) ?_ | refine W_load rfl (by assumption) ?_)))
           <;> (first | refine W_no rfl ?_ | (refine W_yes rfl ?_; (first | refine M_int rfl ?_ | refine W_move ?_)))
           <;> (first | refine W_no rfl ?_ | (refine W_yes rfl ?_; (refine W_neq rfl rfl (fun hc => ?_) (fun hc => ?_) <;> try (exfalso; omega))))
           <;> (first | refine W_no rfl ?_ | (refine W_yes rfl ?_; ((first | refine M_pick_t rfl ?_ | refine M_pick_f rfl ?_); (first | refine M_bool rfl ?_ | refine W_move ?_))))
           <;> (first | refine W_no rfl ?_ | (refine W_yes rfl ?_; (first | refine M_bool rfl ?_ | refine W_move ?_)))
           <;> (first | refine W_no rfl ?_ | (refine W_yes rfl ?_; refine W_fieldAddr rfl ?_))
           <;> (first | refine W_no rfl ?_ | (refine W_yes rfl ?_; (first | refine W_load rfl (Blk.cell (by assumption) (by rfl)) ?_ | refine W_load rfl (by assumption) ?_))))
          (refine W_no rfl ?_
           <;> (first | refine W_no rfl ?_ | (refine W_yes rfl ?_; refine W_not rfl ?_))
           <;> (first | refine W_no rfl ?_ | (refine W_yes rfl ?_; ((first | refine M_pick_t rfl ?_ | refine M_pick_f rfl ?_); (first | refine M_bool rfl ?_ | refine W_move ?_))))
           <;> ((first | refine M_pick_t rfl ?_ | refine M_pick_f rfl ?_); (first | refine M_bool rfl ?_ | refine W_move ?_))
           <;> refine W_nil ?_)
          exact Q_join () ⟨rfl, rfl, rfl, rfl, rfl, rfl, rfl, rfl, rfl, trivial⟩ rfl
    rintro _ _ _ rfl
    repeat' first | refine nx ?_ | refine C_cond_t rfl ?_ | refine C_cond_f rfl ?_ | refine Q_block_on rfl ?_
    (refine C_region ?_
     <;> (first | refine M_int rfl ?_ | refine W_move ?_)
     <;> refine W_add rfl rfl (by first | exact inR_i64 (by omega) (by omega) | exact inR_u8 (by omega) (by omega) | exact inR_u16 (by omega) (by omega)) ?_
     <;> (refine M_assign ?_; (first | refine M_int rfl ?_ | refine W_move ?_))
     <;> refine W_nil ?_)
    repeat' first | refine nx ?_ | refine C_cond_t rfl ?_ | refine C_cond_f rfl ?_ | refine Q_block_on rfl ?_
    refine ⟨k + 1, ⟨rfl, ⟨rfl, rfl, rfl, rfl, ?_, trivial⟩, ⟨by omega, k5.trans l4⟩⟩, by omega⟩
    show Value.int .i64 ((k : Int) + 1) = _
    rw [Int.natCast_add]; rfl
  · (refine C_region ?_
     <;> (first | refine M_int rfl ?_ | refine W_move ?_)
     <;> (first | refine M_slice rfl ?_ | refine W_move ?_)
     <;> refine W_len rfl ?_
     <;> (refine W_lss rfl rfl (fun hc => ?_) (fun hc => ?_) <;> try (exfalso; omega))
     <;> refine W_nil ?_)
    repeat' first | refine nx ?_ | refine C_cond_t rfl ?_ | refine C_cond_f rfl ?_ | refine Q_block_on rfl ?_
    (refine C_region ?_
     <;> (first | refine M_bool rfl ?_ | refine W_move ?_)
     <;> (refine M_assign ?_; (first | refine M_bool rfl ?_ | refine W_move ?_))
     <;> refine W_nil ?_)
    repeat' first | refine nx ?_ | refine C_cond_t rfl ?_ | refine C_cond_f rfl ?_ | refine Q_block_on rfl ?_
    exact fin_ret1 rfl ⟨rfl, k24.trans k5⟩
end Go.Proofs.YtmnhnbpnjepkbaaGreatDoor

namespace Go.Proofs.YtmnhnbpnjepkbaaGreatDoor
open Go.ChangeShapes Go.WideShapes Go.ChangeAt Go.RowKit
open Go.ChangeMaps (open_string)

section
variable {H : Type} {enc : TypeId × Value → H} {P : Program} {W W' : World}

theorem sameAt_ext (he : Ext W W') {p : MemPlace} (hp : p.block < W.heap.size) : W.sameAt W' p := by
  cases p with
  | cell b off => exact World.cell?_of_block (w := W) (a := ⟨b, off, none⟩) (he.block b hp (by simp))
  | map b => exact he.block b hp (by simp)

theorem trodAll_ext (K : Kids P (· < P.types.size)) (hz : ∀ t e, t < P.types.size → P.underlying t = some (.slice e) → 0 < P.cellsOf e) (he : Ext W W') {sp : Nat → Bool} :
    ∀ {ts : List TypeId} {vs : List Value} {ds : List (DataW H)} {ps : List MemPlace}, (∀ t ∈ ts, t < P.types.size) → DataW.TrodAll enc P W 0 (fun _ => true) true ts vs ds ps →
      (∀ p ∈ ps, p.block < W.heap.size) → (∀ p ∈ ps, sp p.block = true) → DataW.TrodAll enc P W' 0 sp true ts vs ds ps
  | [], [], [], _, _, h, _, _ => h
  | _ :: _, _ :: _, _ :: _, _, hT, ⟨p, q, ⟨n, h1⟩, h2, e⟩, hl, hs => by
    subst e
    refine ⟨p, q, ⟨n, DataW.trod_stays K (fun ht hu => hz _ _ ht hu) (fun h => by cases h) (hT _ (by simp)) h1 (fun x hx => sameAt_ext he (hl x (List.mem_append_left _ hx))) fun x hx => hs x (List.mem_append_left _ hx)⟩, ?_, rfl⟩
    exact trodAll_ext K hz he (fun t ht => hT t (List.mem_cons_of_mem _ ht)) h2 (fun x hx => hl x (List.mem_append_right _ hx)) fun x hx => hs x (List.mem_append_right _ hx)

theorem keptBut_ext (he : Ext W W') (may : MemPlace → Prop) : W.keptBut W' may := by
  refine ⟨he.os, he.output, fun i hi => ?_⟩
  rw [he.block i hi (by simp)]
  exact (World.keptBut_refl W may).2.2 i hi

/-- a law that answers true in a world where all is as it was -/
theorem post_of_ext (K : Kids P (· < P.types.size)) (hz : ∀ t e, t < P.types.size → P.underlying t = some (.slice e) → 0 < P.cellsOf e) {f : Func} {s : ChangeSpec} {apart fresh handsOn : Bool} {args : Array Value} {v : Value} {ds gs : List (DataW H)} {before : List MemPlace} {tb : TypeId}
    (hts : ∀ t ∈ f.params.toList, t < P.types.size) (hs : s.vars = []) (hW : DataW.Whole enc P f.params.toList s.vars apart W args.toList ds gs before)
    (hfn : s.fn H (ds ++ gs) = { results := [.lit (.bool true)], args := ds }) (hrt : f.resultTypes = #[tb]) (htb : P.underlying tb = some .bool) (hv : v = .bool true) (he : Ext W W') :
    s.post enc P f apart fresh handsOn false W args v W' := by
  subst hv
  have hlt : ∀ p ∈ before, p.block < W.heap.size := hW.lt
  obtain ⟨p, q, hA, hV, rfl, hf, hn⟩ := id hW
  have hq : gs = [] ∧ q = [] := by
    rw [hs] at hV
    cases gs with
    | nil => exact ⟨rfl, hV⟩
    | cons _ _ => exact hV.elim
  obtain ⟨rfl, rfl⟩ := hq
  refine ⟨ds, [], _, [], p, [], hW, ?_, ?_, ?_, keptBut_ext he _, (fun h => by cases h)⟩
  · rw [hfn, hrt]
    exact trodAll_cons_mk (shut_bool htb true) trodAll_mk0
  · rw [hfn]
    exact trodAll_ext K hz he hts hA (fun x hx => hlt x (List.mem_append_left _ hx)) fun x hx => by simpa using hlt x (List.mem_append_left _ hx)
  · rw [hfn, hs]; exact rfl
end

theorem kids : Kids Tryz.prog (· < Tryz.prog.types.size) := kids_rows (by kernel_rfl) (by kernel_rfl)
theorem full : ∀ t e, t < Tryz.prog.types.size → Tryz.prog.underlying t = some (.slice e) → 0 < Tryz.prog.cellsOf e := slices_full_of Tryz.prog (by kernel_rfl)
theorem own : ownKnob Tryz.prog.godebug = none := by kernel_rfl

section
variable {H : Type} {enc : TypeId × Value → H} {P : Program} {W : World} {sp : Nat → Bool} {hd : Bool}
theorem spot_none {a : Addr} {v : Value} (h : W.cell? a = some v) : a.spot = none := by
  cases ha : a.spot with
  | none => rfl
  | some _ =>
    unfold World.cell? at h
    split at h
    · simp [ha] at h
    · cases h

theorem val_one {r : Reach} {t e : TypeId} {v u : Value} {b : Nat} (ht : P.underlying t = some (.slice e)) (hval : Value.okWide P W r b t v) (h : v.cells.toList = [u]) : v = u := by
  obtain ⟨a, l, c, rfl⟩ := okWide_slice ht hval
  simpa [Value.cells] using h
end
set_option maxRecDepth 100000 in
/-- a law's step: what is left is its walk -/
theorem law_lifted {os : Os} (started : os.Started) {k : FuncId} {fn : Func} {s : ChangeSpec} {conds : List PathCond} {fresh : Bool} {H : Type} {enc : TypeId × Value → H} (noInit : Tryz.prog.inits.idxOf? k = none) (hfn : Tryz.prog.funcs[k]? = some fn)
    (witness : ∃ (w : World) (tape : Tape) (i : Input), w.os = os ∧ (w.forCall tape i).Shaped Tryz.prog ∧ i.vars = [] ∧ Input.okWide Tryz.prog (w.forCall tape i) .any w.heap.size k i ∧
      s.pre6 enc Tryz.prog fn conds false (w.forCall tape i).memory i.args ∧ ({} : Assume).holds Tryz.prog (lone (Frame.enter Tryz.prog k i.args .normal) [] (w.forCall tape i)))
    (hs : s.vars = []) (hts : (fn.params.toList.all fun t => decide (t < Tryz.prog.types.size)) = true) (hrt : fn.resultTypes = #[4])
    (hspec : ∀ ds : List (DataW H), ds.length = fn.params.toList.length → s.fn H ds = { results := [.lit (.bool true)], args := ds })
    (law : ∀ (W : World) (base : Nat) (args : List Value) (ds : List (DataW H)) (p : List MemPlace), (∀ (j : Nat) t v, fn.params.toList[j]? = some t → args[j]? = some v → Value.okWide Tryz.prog W .any base t v) →
      DataW.TrodAll enc Tryz.prog W 0 (fun _ => true) true fn.params.toList args ds p → Fn Tryz.prog k args W fun v w' => v = .bool true ∧ Ext W w') :
    ReturnsInHanded {} Tryz.checked os k .any (s.pre6 enc Tryz.prog fn conds false) (s.post enc Tryz.prog fn false fresh false false) := by
  refine returnsInHanded_of_change (C := Tryz.checked) own started noInit hfn witness ?_
  intro W base args ds gs before hval hW _ _
  have hW' := hW
  obtain ⟨p, q, hA, hV, rfl, hf, hn⟩ := hW
  have hg : gs = [] := by
    rw [hs] at hV
    cases gs with
    | nil => rfl
    | cons _ _ => exact hV.elim
  subst hg
  have hlen : ∀ {ts : List TypeId} {vs : List Value} {ds : List (DataW H)} {ps : List MemPlace}, DataW.TrodAll enc Tryz.prog W 0 (fun _ => true) true ts vs ds ps → ds.length = ts.length := by
    intro ts
    induction ts with
    | nil => intro vs ds ps h; obtain ⟨rfl, rfl, rfl⟩ := trodAll_nil h; rfl
    | cons t ts ih => intro vs ds ps h; obtain ⟨v, vs1, d, ds1, a, b, rfl, rfl, rfl, h1, h2⟩ := trodAll_cons h; simp [ih h2]
  refine Calls.mono (law W base args.toList ds p (fun j t v h1 h2 => hval j t v (Array.getElem?_toList.symm.trans h1) (Array.getElem?_toList.symm.trans h2)) hA) fun e W' he => ?_
  cases e with
  | returned v =>
    refine ⟨v, rfl, post_of_ext kids full (fun t ht => of_decide_eq_true (List.all_eq_true.1 hts t ht)) hs hW' ?_ hrt Tryz.underlying4 he.1 he.2⟩
    rw [List.append_nil]; exact hspec ds (hlen hA)
  | panicked ch => exact he.elim
  | outgrown => exact he.elim

end Go.Proofs.YtmnhnbpnjepkbaaGreatDoor

namespace Go.Proofs.YtmnhnbpnjepkbaaGreatDoor
open Go.ChangeShapes Go.WideShapes Go.ChangeAt Go.RowKit
set_option linter.unusedVariables false

section
variable {H : Type} {enc : TypeId × Value → H} {P : Program} {w : World} {base : Nat} {sp : Nat → Bool} {held : Bool}
theorem trod_arr {fuel : Nat} {t e : TypeId} {n c : Nat} {cs : List Value} {ds : List (DataW H)} {p : List MemPlace} (ht : P.underlying t = some (.array n e)) (hce : P.cellsOf e = c) (hct : P.cellsOf t = n * c)
    (h : DataW.trod enc P w base sp held fuel t cs = some (.agg ds, p)) : cs.length = n * c ∧ ∃ m, ∀ i, i < n → ∃ d q, ds[i]? = some d ∧ DataW.trod enc P w base sp held m e ((cs.drop (i * c)).take c) = some (d, q) := by
  cases fuel with
  | zero => simp [DataW.trod] at h
  | succ fuel =>
    simp only [DataW.trod, ht, hce, hct] at h
    split at h
    · rename_i hl
      obtain ⟨xs, hm, hx⟩ := Option.map_eq_some_iff.1 h
      have hxs : xs.map (·.1) = ds := by
        have := congrArg Prod.fst hx
        simpa using this
      refine ⟨hl, fuel, fun i hi => ?_⟩
      obtain ⟨b, hb, hf⟩ := Lib.mapM_at hm i i (by simp [hi])
      exact ⟨b.1, b.2, by rw [← hxs, List.getElem?_map, hb]; rfl, hf⟩
    · cases h
end

def spanD (p : Nat × Nat × Nat) : DataW Unit := .agg [.lit (.int .u8 (p.1 : Int)), .lit (.int .u8 (p.2.1 : Int)), .lit (.int .i64 (p.2.2 : Int))]
theorem cell_of_piece {cs out : List Value} {c i r : Nat} {v : Value} (h : (cs.drop (i * c)).take c = out) (hv : out[r]? = some v) : cs[i * c + r]? = some v := by
  subst h
  rw [List.getElem?_take] at hv
  split at hv
  · rwa [List.getElem?_drop] at hv
  · cases hv

theorem len3 {cs : List Value} (h : cs.length = 3) : ∃ c0 c1 c2, cs = [c0, c1, c2] := by
  match cs, h with
  | [a, b, c], _ => exact ⟨a, b, c, rfl⟩
theorem span_piece {w : World} {fuel : Nat} {cs : List Value} {p : Nat × Nat × Nat} {q : List MemPlace} (h : DataW.trod (fun _ => ()) Tryz.prog w 0 (fun _ => true) false fuel 123 cs = some (spanD p, q)) : cs = spanC1 p := by
  have hc : Tryz.prog.cellsOf 123 = 3 := by kernel_rfl
  have h8 : Tryz.prog.cellsOf 5 = 1 := by kernel_rfl
  have hi : Tryz.prog.cellsOf 3 = 1 := by kernel_rfl
  obtain ⟨xs, n, _, hx, hcl, hxl, hf⟩ := DataW.trod_struct Tryz.underlying123 h
  rw [hc] at hcl
  obtain ⟨c0, c1, c2, rfl⟩ := len3 hcl
  have f0 : DataW.trod (fun _ => ()) Tryz.prog w 0 (fun _ => true) false n 5 ((List.drop 0 [c0, c1, c2]).take (Tryz.prog.cellsOf 5)) = xs[0]? := hf 0 _ rfl
  have f1 : DataW.trod (fun _ => ()) Tryz.prog w 0 (fun _ => true) false n 5 ((List.drop 1 [c0, c1, c2]).take (Tryz.prog.cellsOf 5)) = xs[1]? := hf 1 _ rfl
  have f2 : DataW.trod (fun _ => ()) Tryz.prog w 0 (fun _ => true) false n 3 ((List.drop 2 [c0, c1, c2]).take (Tryz.prog.cellsOf 3)) = xs[2]? := hf 2 _ rfl
  have hx3 : xs.length = 3 := hxl
  rw [h8] at f0 f1
  rw [hi] at f2
  have g0 : xs[0]? = some xs[0] := List.getElem?_eq_getElem (by omega)
  have g1 : xs[1]? = some xs[1] := List.getElem?_eq_getElem (by omega)
  have g2 : xs[2]? = some xs[2] := List.getElem?_eq_getElem (by omega)
  obtain ⟨a, ha, ha', _⟩ := DataW.trod_int Tryz.underlying5 (f0.trans g0)
  obtain ⟨b, hb, hb', _⟩ := DataW.trod_int Tryz.underlying5 (f1.trans g1)
  obtain ⟨c, hc2, hc', _⟩ := DataW.trod_int Tryz.underlying3 (f2.trans g2)
  have hd : xs.map (·.1) = [.lit (.int .u8 (p.1 : Int)), .lit (.int .u8 (p.2.1 : Int)), .lit (.int .i64 (p.2.2 : Int))] := by
    have := congrArg Prod.fst hx
    simpa [spanD] using this.symm
  have e0 := congrArg (·[0]?) hd
  have e1 := congrArg (·[1]?) hd
  have e2 := congrArg (·[2]?) hd
  simp [g0, ha'] at e0
  simp [g1, hb'] at e1
  simp [g2, hc'] at e2
  simp at ha hb hc2
  rw [ha, hb, hc2, e0, e1, e2]
  try rfl
theorem sym_piece {w : World} {fuel : Nat} {cs : List Value} {l : List UInt8} {q : List MemPlace} (h : DataW.trod (fun _ => ()) Tryz.prog w 0 (fun _ => true) false fuel 9 cs = some (.lit (.string l), q)) : cs = [strV l] := by
  obtain ⟨s, rfl, hx, _⟩ := DataW.trod_string Tryz.underlying9 h
  have := congrArg Prod.fst hx
  simp at this
  rw [this]

def laidL : List (String × DataW Unit) := [("math/bits.deBruijn32tab", Rows.laid_math_bits_deBruijn32tab), ("math/bits.deBruijn64tab", Rows.laid_math_bits_deBruijn64tab), ("internal/strconv.uint64pow10", Rows.laid_internal_strconv_uint64pow10), ("strconv.ErrRange", Rows.laid_strconv_ErrRange), ("strconv.ErrSyntax", Rows.laid_strconv_ErrSyntax), ("foresight/signal.keys", Rows.laid_foresight_signal_keys), ("foresight/lexer.spans", Rows.laid_foresight_lexer_spans), ("foresight/lexer.symbols", Rows.laid_foresight_lexer_symbols)]
theorem gk_of_laid {W : World} (h : laidMetH Tryz.prog laidL W) : GK W := by
  have h' : laidMet Tryz.prog laidL W := h
  obtain ⟨ps, ⟨g1, t1, cs1, fu1, p1, q1, hg1, ht1, hv1, hd1, ⟨g2, t2, cs2, fu2, p2, q2, hg2, ht2, hv2, hd2, ⟨g3, t3, cs3, fu3, p3, q3, hg3, ht3, hv3, hd3, ⟨g4, t4, cs4, fu4, p4, q4, hg4, ht4, hv4, hd4, ⟨g5, t5, cs5, fu5, p5, q5, hg5, ht5, hv5, hd5, ⟨g6, t6, cs6, fu6, p6, q6, hg6, ht6, hv6, hd6, ⟨g7, t7, cs7, fu7, p7, q7, hg7, ht7, hv7, hd7, ⟨g8, t8, cs8, fu8, p8, q8, hg8, ht8, hv8, hd8, _, _⟩, _⟩, _⟩, _⟩, _⟩, _⟩, _⟩, _⟩, _⟩ := h'
  have n2 : Tryz.prog.globalNamed "math/bits.deBruijn64tab" = some 7 := by kernel_rfl
  have n6 : Tryz.prog.globalNamed "foresight/signal.keys" = some 0 := by kernel_rfl
  have n7 : Tryz.prog.globalNamed "foresight/lexer.spans" = some 1 := by kernel_rfl
  have n8 : Tryz.prog.globalNamed "foresight/lexer.symbols" = some 2 := by kernel_rfl
  have y6 : (Tryz.prog.globals[0]?).map (·.type) = some 103 := by kernel_rfl
  have y7 : (Tryz.prog.globals[1]?).map (·.type) = some 124 := by kernel_rfl
  have y8 : (Tryz.prog.globals[2]?).map (·.type) = some 133 := by kernel_rfl
  obtain rfl := Option.some.inj (n6.symm.trans hg6)
  obtain rfl := Option.some.inj (n7.symm.trans hg7)
  obtain rfl := Option.some.inj (n8.symm.trans hg8)
  obtain rfl := Option.some.inj (y6.symm.trans ht6)
  obtain rfl := Option.some.inj (y7.symm.trans ht7)
  obtain rfl := Option.some.inj (y8.symm.trans ht8)
  refine ⟨⟨?_, ?_, ?_⟩, ?_⟩
  · obtain ⟨hl, m, hp⟩ := trod_arr (ds := spansL.map spanD) Tryz.underlying124 (by kernel_rfl : Tryz.prog.cellsOf 123 = 3) (by kernel_rfl) hd7
    intro j u hu
    have hj : j < 48 := (List.getElem?_eq_some_iff.1 hu).1
    obtain ⟨p, hsp⟩ : ∃ p, spansL[j / 3]? = some p := ⟨_, List.getElem?_eq_getElem (by show j / 3 < 16; omega)⟩
    obtain ⟨d, q, hd, ht⟩ := hp (j / 3) (by omega)
    rw [List.getElem?_map, hsp] at hd
    cases hd
    have e1 := span_piece ht
    have e2 := spanC_at spansL (j / 3) p hsp
    obtain ⟨v, hr⟩ : ∃ v, (spanC1 p)[j % 3]? = some v := ⟨_, List.getElem?_eq_getElem (by show j % 3 < 3; omega)⟩
    have c1 := cell_of_piece e1 hr
    have c2 := cell_of_piece e2 hr
    rw [show j / 3 * 3 + j % 3 = j by omega] at c1 c2
    have hu' : (spansL.flatMap spanC1)[j]? = some u := hu
    rw [c2] at hu'
    rw [Nat.zero_add, World.var?_cell n7 hv7 j]
    rw [← hu', ← c1]
    simp
  · obtain ⟨hl, m, hp⟩ := trod_arr (ds := symsL.map fun l => .lit (.string l)) Tryz.underlying133 (by kernel_rfl : Tryz.prog.cellsOf 9 = 1) (by kernel_rfl) hd8
    intro j u hu
    have hj : j < 15 := (List.getElem?_eq_some_iff.1 hu).1
    obtain ⟨p, hsp⟩ : ∃ p, symsL[j]? = some p := ⟨_, List.getElem?_eq_getElem hj⟩
    obtain ⟨d, q, hd, ht⟩ := hp j hj
    rw [List.getElem?_map, hsp] at hd
    cases hd
    have c1 := cell_of_piece (r := 0) (sym_piece ht) rfl
    have hu' : (symsL.map strV)[j]? = some u := hu
    rw [List.getElem?_map, hsp] at hu'
    cases hu'
    rw [Nat.zero_add, World.var?_cell n8 hv8 j]
    simpa using c1
  · have hv := hv2
    simp only [World.var?, n2, Option.bind_some] at hv
    split at hv
    · rename_i e
      have := (Array.getElem?_eq_some_iff.1 e).1
      omega
    · cases hv
  · obtain ⟨hl, m, hp⟩ := trod_arr (ds := keysL.map fun l => .lit (.string l)) Tryz.underlying103 (by kernel_rfl : Tryz.prog.cellsOf 9 = 1) (by kernel_rfl) hd6
    intro j u hu
    have hj : j < 10 := (List.getElem?_eq_some_iff.1 hu).1
    obtain ⟨p, hsp⟩ : ∃ p, keysL[j]? = some p := ⟨_, List.getElem?_eq_getElem hj⟩
    obtain ⟨d, q, hd, ht⟩ := hp j hj
    rw [List.getElem?_map, hsp] at hd
    cases hd
    have c1 := cell_of_piece (r := 0) (sym_piece ht) rfl
    have hu' : (keysL.map strV)[j]? = some u := hu
    rw [List.getElem?_map, hsp] at hu'
    cases hu'
    rw [Nat.zero_add, World.var?_cell n6 hv6 j]
    simpa using c1

set_option maxRecDepth 100000 in
/-- a law's step: what is left is its walk, from a world where the listed variables hold what is listed -/
theorem law_liftedL {os : Os} (started : os.Started) {k : FuncId} {fn : Func} {s : ChangeSpec} {conds : List PathCond} {fresh : Bool} {H : Type} {enc : TypeId × Value → H} (F : Stop.Interp) (noInit : Tryz.prog.inits.idxOf? k = none) (hfn : Tryz.prog.funcs[k]? = some fn)
    (witness : ∃ (w : World) (tape : Tape) (i : Input), w.os = os ∧ (w.forCall tape i).Shaped Tryz.prog ∧ i.vars = [] ∧ Input.okWide Tryz.prog (w.forCall tape i) .any w.heap.size k i ∧
      (OpenSpec.ofChange s).preRow enc Tryz.prog fn conds false laidL (w.forCall tape i).memory i.args ∧ ({} : Assume).holds Tryz.prog (lone (Frame.enter Tryz.prog k i.args .normal) [] (w.forCall tape i)))
    (hs : s.vars = []) (hts : (fn.params.toList.all fun t => decide (t < Tryz.prog.types.size)) = true) (hrt : fn.resultTypes = #[4])
    (hspec : ∀ ds : List (DataW H), ds.length = fn.params.toList.length → s.fn H ds = { results := [.lit (.bool true)], args := ds })
    (law : ∀ (W : World) (base : Nat) (args : List Value) (ds : List (DataW H)) (p : List MemPlace), (∀ (j : Nat) t v, fn.params.toList[j]? = some t → args[j]? = some v → Value.okWide Tryz.prog W .any base t v) →
      DataW.TrodAll enc Tryz.prog W 0 (fun _ => true) true fn.params.toList args ds p → GK W → Fn Tryz.prog k args W fun v w' => v = .bool true ∧ Ext W w') :
    ReturnsInHanded {} Tryz.checked os k .any ((OpenSpec.ofChange s).preRow enc Tryz.prog fn conds false laidL) (((OpenSpec.ofChange s).at F).post enc Tryz.prog fn false fresh false false) := by
  refine returnsInHanded_of_row (C := Tryz.checked) (s := OpenSpec.ofChange s) own started noInit hfn witness ?_
  intro W base args ds gs before hval hW _ _ _ hL _ _
  have hW' : DataW.Whole enc Tryz.prog fn.params.toList s.vars false W args.toList ds gs before := hW
  obtain ⟨p, q, hA, hV, rfl, hf, hn⟩ := hW
  have hg : gs = [] := by
    have hV' : DataW.TrodVars enc Tryz.prog W (fun _ => true) s.vars gs q := hV
    rw [hs] at hV'
    cases gs with
    | nil => rfl
    | cons _ _ => exact hV'.elim
  subst hg
  have hlen : ∀ {ts : List TypeId} {vs : List Value} {ds : List (DataW H)} {ps : List MemPlace}, DataW.TrodAll enc Tryz.prog W 0 (fun _ => true) true ts vs ds ps → ds.length = ts.length := by
    intro ts
    induction ts with
    | nil => intro vs ds ps h; obtain ⟨rfl, rfl, rfl⟩ := trodAll_nil h; rfl
    | cons t ts ih => intro vs ds ps h; obtain ⟨v, vs1, d, ds1, a, b, rfl, rfl, rfl, h1, h2⟩ := trodAll_cons h; simp [ih h2]
  refine Calls.mono (law W base args.toList ds p (fun j t v h1 h2 => hval j t v (Array.getElem?_toList.symm.trans h1) (Array.getElem?_toList.symm.trans h2)) hA (gk_of_laid hL)) fun e W' he => ?_
  cases e with
  | returned v =>
    refine ⟨v, rfl, post_of_ext kids full (fun t ht => of_decide_eq_true (List.all_eq_true.1 hts t ht)) hs hW' ?_ hrt Tryz.underlying4 he.1 he.2⟩
    rw [List.append_nil]; exact hspec ds (hlen hA)
  | panicked ch => exact he.elim
  | outgrown => exact he.elim

def layC (cs : List Value) : Obj → Obj
  | .cells _ t frozen => .cells cs.toArray t frozen
  | o => o
def tabC : DataW Unit → List Value
  | .agg l => l.map fun d => match d with | .lit (.int k z) => .int k z | _ => .bool false
  | _ => []
/-- a world for the witness -/
noncomputable def laidWorld (os : Os) : World :=
  let w := World.holding Tryz.prog os ⟨#[.cells #[strV [118, 97, 108, 117, 101, 32, 111, 117, 116, 32, 111, 102, 32, 114, 97, 110, 103, 101]] 162, .cells #[strV [105, 110, 118, 97, 108, 105, 100, 32, 115, 121, 110, 116, 97, 120]] 162], #[], []⟩
  { w with heap := ((((((((w.heap.modify 1 (layC spanC)).modify 2 (layC symC)).modify 0 (layC keyC)).modify 4 (layC [.iface 160 (.pointer (some ⟨13, 0, none⟩))])).modify 3 (layC [.iface 160 (.pointer (some ⟨14, 0, none⟩))])).modify 5 (layC (tabC Rows.laid_internal_strconv_uint64pow10))).modify 6 (layC (tabC Rows.laid_math_bits_deBruijn32tab))).modify 7 (layC (tabC Rows.laid_math_bits_deBruijn64tab))) }
theorem laidLow (os : Os) : (World.settled Tryz.prog os).heap.size = 13 := by kernel_rfl
end Go.Proofs.YtmnhnbpnjepkbaaGreatDoor

namespace Go.Proofs.YtmnhnbpnjepkbaaGreatDoor
open Go.ChangeShapes Go.WideShapes Go.ChangeAt Go.RowKit
open Go.ChangeMaps (open_string)
set_option linter.unusedVariables false

set_option maxRecDepth 100000 in
theorem ParserFirstError_open {H : Type} {enc : TypeId × Value → H} (W : World) (base : Nat) (args : List Value) (ds : List (DataW H)) (p : List MemPlace) (hval : ∀ (j : Nat) t v, Tryz.f4.params.toList[j]? = some t → args[j]? = some v → Value.okWide Tryz.prog W .any base t v)
    (hA : DataW.TrodAll enc Tryz.prog W 0 (fun _ => true) true Tryz.f4.params.toList args ds p) (hG : GK W) : Fn Tryz.prog 4 args W fun v w' => v = .bool true ∧ Ext W w' := by
  rw [Tryz.params4] at hA hval
  obtain ⟨v0, _, d0, _, p0, q0, rfl, rfl, rfl, h0, r0⟩ := trodAll_cons hA
  obtain ⟨rfl, rfl, rfl⟩ := trodAll_nil r0
  obtain ⟨s0, rfl, _, _, _⟩ := open_string Tryz.underlying9 (hval 0 _ v0 rfl rfl) h0
  exact first_ok W s0.data.toList hG

theorem ParserFirstError_laidMet (os : Os) : laidMet Tryz.prog laidL ((laidWorld os).forCall (fun _ _ => 0) ⟨#[], #[.string .empty], []⟩).memory := laidMet_of_run' 8 (by kernel_rfl) (by kernel_rfl)
theorem ParserFirstError_reads (os : Os) {H : Type} (enc : TypeId × Value → H) : ∃ places, DataW.whole enc Tryz.prog ((laidWorld os).forCall (fun _ _ => 0) ⟨#[], #[.string .empty], []⟩).memory Tryz.f4.params.toList Rows.parserFirstErrorSpec.vars false #[.string .empty].toList 8 = some ([.lit (.string [])], [], places) := ⟨[], by kernel_rfl⟩
set_option maxRecDepth 100000 in
theorem ParserFirstError_lifted (os : Os) (started : os.Started) (H : Type) (enc : TypeId × Value → H) (F : Stop.Interp) :
    ReturnsInHanded {} Tryz.checked os 4 .any ((OpenSpec.ofChange Rows.parserFirstErrorSpec).preRow enc Tryz.prog Tryz.f4 Rows.parserFirstErrorRow.domain false Rows.parserFirstErrorRow.laid) (((OpenSpec.ofChange Rows.parserFirstErrorSpec).at F).post enc Tryz.prog Tryz.f4 false true false false) := by
  obtain ⟨places, hx⟩ := ParserFirstError_reads os enc
  exact law_liftedL started F (by kernel_rfl) Tryz.func4
    (witness_row_atRef (enc := enc) (C := Tryz.checked) false (laidWorld os) #[.string .empty] rfl (by kernel_rfl) (by kernel_rfl) (by kernel_rfl)
      (OpenSpec.preRow_of_cond 8 hx (by kernel_rfl) (fun k hk => by cases hk) (by kernel_rfl) (ParserFirstError_laidMet os))) rfl (by kernel_rfl) (by kernel_rfl)
    (fun ds h => by
      match ds, h with
      | [d1], _ => rfl) ParserFirstError_open
theorem ParserFirstError_said : Rows.ParserFirstErrorSaid :=
  OpenClaim.holds_of_cond 4 Tryz.f4 rfl rfl rfl rfl rfl rfl rfl ⟨rfl, rfl, rfl, rfl, rfl⟩ rfl rfl rfl rfl rfl (by kernel_rfl) Tryz.func4 (by kernel_rfl)
    (of_decide_eq_true (by kernel_rfl)) (by unfold Func.isWrapper; first | (rw [if_pos (by decide +kernel)]; kernel_rfl) | (rw [if_neg (by decide +kernel)]; exact ⟨rfl, rfl⟩))
    (fun os started H enc _ F => by rw [OpenClaim.pre_eq_preRow]; exact ParserFirstError_lifted os started H enc F)
theorem ParserFirstError_plain (f : FuncId) (fn : Func) (hf : Tryz.pinned.checked.prog.funcNamed "foresight/foresightlaw05.ParserFirstError" = some f) (hfn : Tryz.pinned.checked.prog.funcs[f]? = some fn) :
    true = Tryz.pinned.checked.prog.looks [] ∧ ∀ (j : Nat) t, fn.params[j]? = some t → Tryz.pinned.checked.prog.wantsStandIn t = false := by
  obtain rfl : f = 4 := Option.some.inj ((show Tryz.prog.funcNamed "foresight/foresightlaw05.ParserFirstError" = some 4 by kernel_rfl).symm.trans hf) |>.symm
  obtain rfl : fn = Tryz.f4 := (Option.some.inj (Tryz.func4.symm.trans hfn)).symm
  refine ⟨by kernel_rfl, fun j t ht => ?_⟩
  have hall : (Tryz.f4.params.toList.all fun t => !Tryz.prog.wantsStandIn t) = true := by kernel_rfl
  have := List.all_eq_true.1 hall t (by simpa using Array.mem_of_getElem? ht)
  exact Bool.not_eq_true' _ |>.mp this
theorem ParserFirstError_proved : Rows.ParserFirstErrorCardSaid :=
  Claim7.holds_tied_plain_at .later [] _ _ _ _ ParserFirstError_said (fun _ h => by cases h) (by kernel_rfl) (fun _ h => by cases h) parserFirstError_row_tie rfl ⟨rfl, rfl⟩ (by kernel_rfl) rfl ParserFirstError_plain (by kernel_rfl)
end Go.Proofs.YtmnhnbpnjepkbaaGreatDoor
