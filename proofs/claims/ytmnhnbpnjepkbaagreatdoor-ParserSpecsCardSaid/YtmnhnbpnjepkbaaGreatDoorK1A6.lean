/- The lexer's laws: gaps. The lexer's plain law: gaps between the tokens. The lexer's plain law: tokens stand in the text. The lexer's plain law: tokens with gaps between them. The parser's plain law: formulas, the grammar and its runs. The parser's plain law: what a run leaves, runs over other tokens, over longer lists. The parser: its state, formulas in memory, the functions that look at one token. Conditions: none. -/
import Derived.Test.YtmnhnbpnjepkbaaGreatDoorK1A5

namespace Go.Proofs.YtmnhnbpnjepkbaaGreatDoor
open Go.RowKit
set_option linter.unusedVariables false

def isBlank (c : UInt8) : Bool := decide (c.toNat = 32) || decide (c.toNat = 9) || decide (c.toNat = 10) || decide (c.toNat = 13)
theorem blankB_ok (c : UInt8) (w : World) : Fn Tryz.prog 52 [enc8 c] w fun v w' => v = .bool (isBlank c) ∧ w' = w := by
  refine fn_of_wc Tryz.func52 rfl Tryz.ntmps52 (Nat.le_of_ble_eq_true rfl) (by kernel_rfl) ?_
  repeat' first | refine nx ?_ | refine C_cond_t rfl ?_ | refine C_cond_f rfl ?_ | refine Q_block_on rfl ?_
  (refine C_region ?_
   <;> (refine M_assign ?_; (first | refine M_bool rfl ?_ | refine W_move ?_))
   <;> refine W_nil ?_)
  repeat' first | refine nx ?_ | refine C_cond_t rfl ?_ | refine C_cond_f rfl ?_ | refine Q_block_on rfl ?_
  (refine C_region ?_
   <;> (first | refine M_int rfl ?_ | refine W_move ?_)
   <;> (refine W_eql rfl rfl (fun hc => ?_) (fun hc => ?_) <;> try (exfalso; omega))
   <;> (first | refine M_bool rfl ?_ | refine W_move ?_)
   <;> (first | refine W_no rfl ?_ | (refine W_yes rfl ?_; (first | refine M_int rfl ?_ | refine W_move ?_)))
   <;> (first | refine W_no rfl ?_ | (refine W_yes rfl ?_; (refine W_eql rfl rfl (fun hc => ?_) (fun hc => ?_) <;> try (exfalso; omega))))
   <;> ((first | refine M_pick_t rfl ?_ | refine M_pick_f rfl ?_); (first | refine M_bool rfl ?_ | refine W_move ?_))
   <;> (first | refine M_bool rfl ?_ | refine W_move ?_)
   <;> (first | refine W_no rfl ?_ | (refine W_yes rfl ?_; (first | refine M_int rfl ?_ | refine W_move ?_)))
   <;> (first | refine W_no rfl ?_ | (refine W_yes rfl ?_; (refine W_eql rfl rfl (fun hc => ?_) (fun hc => ?_) <;> try (exfalso; omega))))
   <;> ((first | refine M_pick_t rfl ?_ | refine M_pick_f rfl ?_); (first | refine M_bool rfl ?_ | refine W_move ?_))
   <;> (first | refine M_bool rfl ?_ | refine W_move ?_)
   <;> (first | refine W_no rfl ?_ | (refine W_yes rfl ?_; (first | refine M_int rfl ?_ | refine W_move ?_)))
   <;> (first | refine W_no rfl ?_ | (refine W_yes rfl ?_; (refine W_eql rfl rfl (fun hc => ?_) (fun hc => ?_) <;> try (exfalso; omega))))
   <;> ((first | refine M_pick_t rfl ?_ | refine M_pick_f rfl ?_); (first | refine M_bool rfl ?_ | refine W_move ?_))
   <;> (refine M_assign ?_; (first | refine M_bool rfl ?_ | refine W_move ?_))
   <;> refine W_nil ?_)
  all_goals
    repeat' first | refine nx ?_ | refine C_cond_t rfl ?_ | refine C_cond_f rfl ?_ | refine Q_block_on rfl ?_
    exact fin_ret1 rfl ⟨by simp [isBlank, upd, Nat.beq]; omega, rfl⟩

/-- the gaps at the beginning, from an offset on -/
def gapF (t : List UInt8) : Nat → Nat → Nat
  | 0, a => a
  | n + 1, a => if a < t.length then (if (t.getD a 0).toNat = 37 then gapF t n (whileB inComm t a) else if isBlank (t.getD a 0) = true then gapF t n (a + 1) else a) else a
theorem gapF_fuel (t : List UInt8) : ∀ (n m a : Nat), a ≤ t.length → t.length < n + a → t.length < m + a → gapF t n a = gapF t m a
  | 0, _, _, h, h1, _ => by omega
  | _, 0, _, h, _, h2 => by omega
  | n + 1, m + 1, a, h, h1, h2 => by
    unfold gapF
    split
    · rename_i hl
      split
      · rename_i h37
        have hc : t[a]? = some t[a] := List.getElem?_eq_getElem hl
        have hle := whileB_le (p := inComm) (t := t) (a := a) (by omega)
        have hst := whileB_step (p := inComm) hc (by rw [getD_of hc] at h37; simp [inComm, h37])
        have hge := whileB_ge inComm t (a + 1)
        exact gapF_fuel t n m _ hle (by omega) (by omega)
      · split
        · exact gapF_fuel t n m _ (by omega) (by omega) (by omega)
        · rfl
    · rfl
def gapW (t : List UInt8) (a : Nat) : Nat := gapF t (t.length + 1 - a) a
theorem gapW_end {t : List UInt8} : gapW t t.length = t.length := by
  unfold gapW
  rw [show t.length + 1 - t.length = 0 + 1 by omega]
  unfold gapF
  rw [if_neg (by omega)]
theorem gapW_step {t : List UInt8} {a : Nat} {c : UInt8} (hc : t[a]? = some c) : gapW t a = if c.toNat = 37 then gapW t (whileB inComm t a) else if isBlank c = true then gapW t (a + 1) else a := by
  have hl : a < t.length := (List.getElem?_eq_some_iff.1 hc).1
  unfold gapW
  rw [show t.length + 1 - a = (t.length - a) + 1 by omega]
  conv => lhs; unfold gapF
  rw [if_pos hl, getD_of hc]
  split
  · rename_i h37
    have hle := whileB_le (p := inComm) (t := t) (a := a) (by omega)
    have hst := whileB_step (p := inComm) hc (by simp [inComm, h37])
    have hge := whileB_ge inComm t (a + 1)
    exact gapF_fuel t _ _ _ hle (by omega) (by omega)
  · split
    · exact gapF_fuel t _ _ _ (by omega) (by omega) (by omega)
    · rfl
end Go.Proofs.YtmnhnbpnjepkbaaGreatDoor

namespace Go.Proofs.YtmnhnbpnjepkbaaGreatDoor
set_option linter.unusedVariables false

theorem kindB_0 {c : UInt8} (h : kindB c = some 0) : c.toNat ≠ 37 ∧ isBlank c = true := by
  unfold kindB at h
  obtain ⟨p, hp, hk⟩ := Option.map_eq_some_iff.1 h
  have h1 := List.find?_some hp
  have h2 := List.mem_of_find?_eq_some hp
  simp [spansL] at h2
  rcases h2 with rfl | rfl | rfl | rfl | rfl | rfl | rfl | rfl | rfl | rfl | rfl | rfl | rfl | rfl | rfl | rfl <;> simp at hk
  all_goals
    simp [inSpan] at h1
    simp [isBlank]
    omega
theorem kindB_1 {c : UInt8} (h : kindB c = some 1) : c.toNat = 37 := by
  unfold kindB at h
  obtain ⟨p, hp, hk⟩ := Option.map_eq_some_iff.1 h
  have h1 := List.find?_some hp
  have h2 := List.mem_of_find?_eq_some hp
  simp [spansL] at h2
  rcases h2 with rfl | rfl | rfl | rfl | rfl | rfl | rfl | rfl | rfl | rfl | rfl | rfl | rfl | rfl | rfl | rfl <;> simp at hk
  simp [inSpan] at h1
  omega
/-- a step that adds no token -/
theorem step_gap {t : List UInt8} {a a1 : Nat} {ts : List Tok} (h : stepM t a ts = .ok (a1, ts)) :
    ((t.getD a 0).toNat ≠ 37 ∧ isBlank (t.getD a 0) = true ∧ a1 = a + 1) ∨ ((t.getD a 0).toNat = 37 ∧ a1 = whileB inComm t a) := by
  have no : ∀ {k : Int} {n : Nat}, addM t a ts k n = .ok (a1, ts) → False := fun h => by have := (addM_le h).1; simp at this
  unfold stepM at h
  split at h
  · rename_i hk; cases h; exact .inl ⟨(kindB_0 hk).1, (kindB_0 hk).2, rfl⟩
  · rename_i hk; cases h; exact .inr ⟨kindB_1 hk, rfl⟩
  · unfold nameM at h
    split at h
    · cases h
    · exact (no h).elim
  · unfold numM at h
    split at h
    · cases h
    · exact (no h).elim
  · unfold symM at h
    split at h
    · exact (no h).elim
    · cases h
  · cases h
theorem gap_reach {t : List UInt8} {a b : Nat} {ts tsb : List Tok} (h : Reach1 t a ts b tsb) (e : tsb.length = ts.length) (hb : b ≤ t.length) : gapW (t.take b) a = b := by
  induction h with
  | refl a ts =>
    have e : (t.take a).length = a := by simp; omega
    have := gapW_end (t := t.take a)
    rwa [e] at this
  | step h hs hr ih =>
    rename_i a a1 b ts ts1 tsb
    have h1 := hr.pre.length_le
    have h2 := hr.le
    have h3 := step_on h hs
    obtain rfl : ts1 = ts := by
      rcases step_shape hs with rfl | ⟨k, rfl⟩
      · rfl
      · simp at h1; omega
    have hc : (t.take b)[a]? = some t[a] := by rw [List.getElem?_take, if_pos (by omega)]; exact List.getElem?_eq_getElem h
    have hg : t.getD a 0 = t[a] := getD_of (List.getElem?_eq_getElem h)
    have ih := ih e hb
    rw [gapW_step hc]
    rcases step_gap hs with ⟨g1, g2, rfl⟩ | ⟨g1, rfl⟩
    · rw [hg] at g1 g2
      rw [if_neg g1, if_pos g2]; exact ih
    · rw [hg] at g1
      rw [if_pos g1, whileB_take h2]; exact ih
theorem gapF_sh (v u : List UInt8) : ∀ (n j : Nat), gapF (v ++ u) n (v.length + j) = v.length + gapF u n j
  | 0, j => rfl
  | n + 1, j => by
    unfold gapF
    rw [getD_sh, whileB_sh, Nat.add_assoc, gapF_sh v u n, gapF_sh v u n]
    have e : (v.length + j < (v ++ u).length) = (j < u.length) := by simp
    simp only [e]
    split
    · split
      · rfl
      · split <;> rfl
    · rfl
theorem gapW_sh (v u : List UInt8) (j : Nat) (hj : j ≤ u.length) : gapW (v ++ u) (v.length + j) = v.length + gapW u j := by
  unfold gapW
  rw [← gapF_sh, show (v ++ u).length + 1 - (v.length + j) = u.length + 1 - j by simp; omega]
/-- what lies between two places of the scan, with no token between them, consists of gaps -/
theorem gap_between {t : List UInt8} {a b : Nat} {ts tsb : List Tok} (h : Reach1 t a ts b tsb) (e : tsb.length = ts.length) (hb : b ≤ t.length) : gapW ((t.take b).drop a) 0 = ((t.take b).drop a).length := by
  have hab := h.le
  have h1 := gap_reach h e hb
  have hv : ((t.take b).take a).length = a := by simp; omega
  have h2 := gapW_sh ((t.take b).take a) ((t.take b).drop a) 0 (by omega)
  rw [List.take_append_drop, hv, Nat.add_zero, h1] at h2
  have hl : ((t.take b).drop a).length = b - a := by simp; omega
  omega
end Go.Proofs.YtmnhnbpnjepkbaaGreatDoor

namespace Go.Proofs.YtmnhnbpnjepkbaaGreatDoor
set_option linter.unusedVariables false

/-- the next token from a place of the scan on -/
theorem Reach1.first {t : List UInt8} {a b : Nat} {ts tsb : List Tok} (h : Reach1 t a ts b tsb) (hb : b ≤ t.length) (hlt : ts.length < tsb.length) :
    ∃ x, tsb[ts.length]? = some x ∧ Reach1 t a ts x.loc ts ∧ x.text = (t.take (x.loc + x.text.length)).drop x.loc ∧ 1 ≤ x.text.length ∧ x.loc + x.text.length ≤ b ∧ Reach1 t (x.loc + x.text.length) (ts ++ [x]) b tsb := by
  induction h with
  | refl => omega
  | step h hs hr ih =>
    rename_i a a1 b ts ts1 tsb
    have h0 := step_on h hs
    have h2 := hr.le
    rcases step_shape hs with rfl | ⟨kd, rfl⟩
    · obtain ⟨x, g1, g2, g3⟩ := ih hb hlt
      exact ⟨x, g1, .step h hs g2, g3⟩
    · obtain ⟨r, hr'⟩ := hr.pre
      have hlen : a + ((t.take a1).drop a).length = a1 := by simp; omega
      refine ⟨⟨kd, (t.take a1).drop a, a⟩, by rw [← hr']; simp, .refl _ _, ?_, ?_, ?_, ?_⟩
      · simp only; rw [hlen]
      · simp only; omega
      · simp only; omega
      · simp only; rw [hlen]; exact hr
end Go.Proofs.YtmnhnbpnjepkbaaGreatDoor

namespace Go.Proofs.YtmnhnbpnjepkbaaGreatDoor
set_option linter.unusedVariables false

/-- a byte with which a gap begins -/
def sepB (c : UInt8) : Prop := c = 32 ∨ c = 9 ∨ c = 10 ∨ c = 13 ∨ c = 37
theorem sepB_sym {c : UInt8} (h : sepB c) : ∀ y ∈ symsL, c ∉ y := by
  rcases h with rfl | rfl | rfl | rfl | rfl <;> decide
theorem sepB_name {c : UInt8} (h : sepB c) : inName c = false := by
  rcases h with rfl | rfl | rfl | rfl | rfl <;> decide
theorem sepB_dig {c : UInt8} (h : sepB c) : isDig c = false := by
  rcases h with rfl | rfl | rfl | rfl | rfl <;> decide
theorem sepB_let {c : UInt8} (h : sepB c) : isLet c = false ∧ c.toNat ≠ 95 := by
  rcases h with rfl | rfl | rfl | rfl | rfl <;> decide
theorem whileB_appc {p : UInt8 → Bool} {c : UInt8} (hp : p c = false) (t u : List UInt8) (a : Nat) (h : a ≤ t.length) : whileB p (t ++ c :: u) a = whileB p t a := by
  unfold whileB
  rw [List.drop_append_of_le_length h]
  congr 2
  generalize t.drop a = l
  induction l with
  | nil => simp [hp]
  | cons x l ih =>
    rw [List.cons_append, List.takeWhile_cons, List.takeWhile_cons]
    cases p x <;> simp [ih]
theorem hasPre_appc {t u y : List UInt8} {c : UInt8} (hy : c ∉ y) : hasPre (t ++ c :: u) y = hasPre t y := by
  rw [Bool.eq_iff_iff, hasPre_iff, hasPre_iff]
  constructor
  · intro h
    by_cases hl : y.length ≤ t.length
    · exact List.prefix_of_prefix_length_le h (List.prefix_append _ _) hl
    · exfalso
      have h1 : t ++ [c] <+: t ++ c :: u := ⟨u, by simp⟩
      have h2 : t ++ [c] <+: y := List.prefix_of_prefix_length_le h1 h (by simp; omega)
      exact hy (h2.subset (by simp))
  · intro h; exact h.trans (List.prefix_append _ _)
/-- a token does not depend on the gap behind it -/
theorem step_appc {c : UInt8} (hc : sepB c) (t u : List UInt8) (a : Nat) (ts : List Tok) (h : a < t.length) (hk : kindB (t.getD a 0) ≠ some 1) : stepM (t ++ c :: u) a ts = stepM t a ts := by
  unfold stepM
  rw [getD_app h]
  cases hkk : kindB (t.getD a 0) with
  | none => rfl
  | some k =>
    match k with
    | 0 => rfl
    | 1 => exact absurd hkk hk
    | 2 =>
      simp only [nameM]
      rw [whileB_appc (sepB_name hc) t u (a + 1) (by omega), addM_app _ _ _ _ _ _ (whileB_le (by omega))]
    | 3 =>
      have hle := whileB_le (p := isDig) (t := t) (a := a) (by omega)
      have hb : numBad (t ++ c :: u) a = numBad t a := by
        unfold numBad
        rw [whileB_appc (sepB_dig hc) t u a (by omega), getD_app h]
        congr 1
        by_cases hn : whileB isDig t a < t.length
        · rw [getD_app hn]; simp [hn]; intro _; omega
        · have e : whileB isDig t a = t.length := by omega
          rw [e]
          have : (t ++ c :: u).getD t.length 0 = c := by simp [List.getD_eq_getElem?_getD]
          rw [this]
          obtain ⟨h1, h2⟩ := sepB_let hc
          simp [h1, h2]
      simp only [numM]
      rw [hb, whileB_appc (sepB_dig hc) t u a (by omega), addM_app _ _ _ _ _ _ hle]
    | k + 4 =>
      simp only [symM]
      have hf : symsL.find? (hasPre ((t ++ c :: u).drop a)) = symsL.find? (hasPre (t.drop a)) := by
        have hn : ∀ y ∈ symsL, c ∉ y := sepB_sym hc
        rw [List.drop_append_of_le_length (by omega)]
        generalize symsL = l at hn
        induction l with
        | nil => rfl
        | cons y l ih =>
          rw [List.find?_cons, List.find?_cons, hasPre_appc (hn y (by simp)), ih fun z hz => hn z (by simp [hz])]
      rw [hf]
      split
      · rename_i y hy
        have := ((hasPre_iff _ _).1 (List.find?_some hy)).length_le
        simp at this
        rw [addM_app _ _ _ _ _ _ (by omega)]
      · rfl

theorem addM_un {v u : List UInt8} {a1 n : Nat} {ts : List Tok} {x : Tok} {k : Int} (h : addM (v ++ u) v.length ts k (v.length + n) = .ok (a1, ts ++ [x])) :
    addM u 0 [] k n = .ok (a1 - v.length, [⟨x.kind, x.text, 0⟩]) := by
  have e := addM_ok h
  obtain ⟨e1, e2⟩ := addM_le h
  subst e
  have := List.append_cancel_left e1
  simp at this
  subst this
  unfold addM
  have := take_sh v u 0 n
  simp at this
  simp [this]
/-- a token that begins where a text begins -/
theorem step_un {v u : List UInt8} {a1 : Nat} {ts : List Tok} {x : Tok} (h : stepM (v ++ u) v.length ts = .ok (a1, ts ++ [x])) :
    kindB (u.getD 0 0) ≠ some 1 ∧ stepM u 0 [] = .ok (a1 - v.length, [⟨x.kind, x.text, 0⟩]) := by
  unfold stepM at h ⊢
  have hg := getD_sh v u 0
  simp only [Nat.add_zero] at hg
  rw [hg] at h
  split at h
  · simp [blankM] at h
  · simp [commM] at h
  · rename_i hk
    rw [hk]
    refine ⟨by simp, ?_⟩
    unfold nameM at h ⊢
    have hw := whileB_sh (q := inName) v u 1
    split at h
    · cases h
    · rename_i hn
      rw [hw] at h hn
      rw [if_neg (by simp only [Nat.zero_add]; omega)]
      exact addM_un h
  · rename_i hk
    simp only [hk]
    refine ⟨by simp, ?_⟩
    unfold numM at h ⊢
    have hw := whileB_sh (q := isDig) v u 0
    have hb := numBad_sh v u 0
    simp only [Nat.add_zero] at hw hb
    rw [hb, hw] at h
    split at h
    · cases h
    · rename_i hn
      rw [if_neg hn]
      exact addM_un h
  · rename_i k h0 h1 h2 h3 hk
    rw [hk]
    refine ⟨fun e => h1 (Option.some.inj e), ?_⟩
    unfold symM at h ⊢
    have hd := drop_sh v u 0
    simp only [Nat.add_zero, List.drop_zero] at hd
    rw [hd] at h
    split at h
    · rename_i y hy
      rw [List.drop_zero, hy]
      simp only [Nat.zero_add]
      exact addM_un h
    · cases h
  · cases h

/-- a text that is one token -/
structure Alone (k : Int) (y : List UInt8) : Prop where
  pos : 1 ≤ y.length
  kind : kindB (y.getD 0 0) ≠ some 1
  step : stepM y 0 [] = .ok (y.length, [⟨k, y, 0⟩])

theorem Reach1.alone {t : List UInt8} {a b : Nat} {ts tsb : List Tok} (h : Reach1 t a ts b tsb) (hb : b ≤ t.length) (hA : ∀ x ∈ ts, Alone x.kind x.text) : ∀ x ∈ tsb, Alone x.kind x.text := by
  induction h with
  | refl => exact hA
  | step h hs hr ih =>
    rename_i a a1 b ts ts1 tsb
    refine ih hb ?_
    have h0 := step_on h hs
    have h1 := step_le h hs
    rcases step_shape hs with rfl | ⟨k, rfl⟩
    · exact hA
    · intro x hx
      rcases List.mem_append.1 hx with hx | hx
      · exact hA x hx
      · simp at hx
        subst hx
        have g := step_take (p := a1) h1 h hs (Nat.le_refl _)
        have hv : (t.take a).length = a := by simp; omega
        have et : t.take a1 = t.take a ++ (t.take a1).drop a := by
          have : t.take a = (t.take a1).take a := by rw [List.take_take, Nat.min_eq_left (by omega)]
          rw [this, List.take_append_drop]
        generalize hy : (t.take a1).drop a = y at et g ⊢
        have hyl : y.length = a1 - a := by rw [← hy]; simp; omega
        rw [et] at g
        have g' : stepM (t.take a ++ y) (t.take a).length ts = .ok (a1, ts ++ [⟨k, y, a⟩]) := by rw [hv]; exact g
        obtain ⟨g1, g2⟩ := step_un g'
        rw [hv, ← hyl] at g2
        exact ⟨by simp only; omega, g1, g2⟩

/-! ### The law -/
def gapsL : List (List UInt8) := [[32], [9, 10], [37, 32, 120, 10], [32, 32, 13], [10, 37, 10, 32]]
theorem gap_step : ∀ g ∈ gapsL, (∃ c r, g = c :: r ∧ sepB c) ∧ g.length ≤ 4 ∧ ∀ u, Reach1 (g ++ u) 0 [] g.length [] := by
  intro g hg
  simp only [gapsL, List.mem_cons, List.not_mem_nil, or_false] at hg
  rcases hg with rfl | rfl | rfl | rfl | rfl
  · exact ⟨⟨_, _, rfl, .inl rfl⟩, by simp, fun u => .step (a1 := 1) (by simp) rfl (.refl _ _)⟩
  · exact ⟨⟨_, _, rfl, .inr (.inl rfl)⟩, by simp, fun u => .step (a1 := 1) (by simp) rfl (.step (a1 := 2) (by simp) rfl (.refl _ _))⟩
  · exact ⟨⟨_, _, rfl, .inr (.inr (.inr (.inr rfl)))⟩, by simp, fun u => .step (a1 := 3) (by simp) rfl (.step (a1 := 4) (by simp) rfl (.refl _ _))⟩
  · exact ⟨⟨_, _, rfl, .inl rfl⟩, by simp, fun u => .step (a1 := 1) (by simp) rfl (.step (a1 := 2) (by simp) rfl (.step (a1 := 3) (by simp) rfl (.refl _ _)))⟩
  · exact ⟨⟨_, _, rfl, .inr (.inr (.inl rfl))⟩, by simp, fun u => .step (a1 := 1) (by simp) rfl (.step (a1 := 2) (by simp) rfl (.step (a1 := 3) (by simp) rfl (.step (a1 := 4) (by simp) rfl (.refl _ _))))⟩

def bare (x : Tok) : Int × List UInt8 := (x.kind, x.text)
/-- what has been written reads as these tokens, whatever follows -/
def Reads (s : List UInt8) (us : List Tok) : Prop := ∀ u, Reach1 (s ++ u) 0 [] s.length us
theorem Reads.gap {s g : List UInt8} {us : List Tok} (h : Reads s us) (hg : g ∈ gapsL) (hu : us.length ≤ 2000) : Reads (s ++ g) us := by
  intro u
  have h1 := h (g ++ u)
  have h2 := ((gap_step g hg).2.2 u).shift s us (by simpa using hu)
  simp only [Nat.add_zero, List.map_nil, List.append_nil] at h2
  rw [List.append_assoc, List.length_append]
  exact h1.trans h2
theorem Reads.tok {s g y : List UInt8} {us : List Tok} {k : Int} (h : Reads s us) (hy : Alone k y) (hg : g ∈ gapsL) (hu : us.length < 2000) : Reads (s ++ y ++ g) (us ++ [⟨k, y, s.length⟩]) := by
  intro u
  obtain ⟨⟨c, r, e, hc⟩, _, hgr⟩ := gap_step g hg
  have h1 := h (y ++ (g ++ u))
  have hs : stepM (y ++ (g ++ u)) 0 [] = .ok (y.length, [⟨k, y, 0⟩]) := by
    rw [e, List.cons_append, step_appc hc y _ 0 [] (by have := hy.pos; omega) hy.kind]
    exact hy.step
  have h2 : Reach1 (y ++ (g ++ u)) 0 [] y.length [⟨k, y, 0⟩] := .step (by have := hy.pos; simp; omega) hs (.refl _ _)
  have h2 := h2.shift s us (by simp; omega)
  have h3 := ((hgr u).shift (s ++ y) (us ++ [⟨k, y, s.length⟩]) (by simp; omega))
  simp only [Nat.add_zero, List.map_nil, List.append_nil, List.map_cons, shT, Nat.zero_add, List.length_append, List.append_assoc] at h2 h3 ⊢
  have := (h1.trans h2).trans h3
  rw [← Nat.add_assoc]
  exact this

/-- the bytes of tokens -/
def bytesT (l : List Tok) : Nat := (l.map fun x => x.text.length).sum
theorem Reach1.bytes {t : List UInt8} {a b : Nat} {ts tsb : List Tok} (h : Reach1 t a ts b tsb) : bytesT tsb + a ≤ bytesT ts + b := by
  induction h with
  | refl => omega
  | step h hs hr ih =>
    have := step_on h hs
    rcases step_shape hs with rfl | ⟨k, rfl⟩
    · omega
    · simp [bytesT] at ih ⊢; omega
theorem bytesT_take (l : List Tok) (k : Nat) : bytesT (l.take k) ≤ bytesT l := by
  have h := congrArg bytesT (List.take_append_drop k l)
  simp only [bytesT, List.map_append, List.sum_append] at h ⊢
  omega
end Go.Proofs.YtmnhnbpnjepkbaaGreatDoor

namespace Go.Proofs.YtmnhnbpnjepkbaaGreatDoor
set_option linter.unusedVariables false

/-! ### What is parsed -/
inductive Fml where
  | mk (op : Int) (name : List UInt8) (val bound : Int) (args : List Fml)
def Fml.op : Fml → Int | .mk o _ _ _ _ => o
def Fml.name : Fml → List UInt8 | .mk _ n _ _ _ => n
def Fml.val : Fml → Int | .mk _ _ v _ _ => v
def Fml.bound : Fml → Int | .mk _ _ _ b _ => b
def Fml.args : Fml → List Fml | .mk _ _ _ _ a => a
def zeroF : Fml := ⟨0, [], 0, 0, []⟩
structure Sgn where
  name : List UInt8
  input : Bool
  size : Int
structure Rqm where
  part : List UInt8
  name : List UInt8
  kind : Int
  formula : Fml
structure Spc where
  sigs : List Sgn
  reqs : List Rqm
structure Edt where
  kind : Int
  req : Rqm
/-- what an operator stands for: without an index, with one (0: none), Val without one -/
structure Opr where
  op : Int
  indexed : Int
  val : Int
deriving DecidableEq

/-! ### Programs that read tokens -/
inductive NT where
  | formula | orN | orL | andN | andL | untilN | unary | primary | req | line | lines | part | parts | signal | sigs | spec | edit
abbrev NT.T : NT → Type
  | .formula | .orN | .andN | .untilN | .unary | .primary => Fml
  | .orL | .andL => List Fml
  | .req | .line => Rqm
  | .lines | .part => List Rqm
  | .parts => List (List Rqm)
  | .signal => Sgn
  | .sigs => List Sgn
  | .spec => Spc
  | .edit => Edt
abbrev BT := Int × List UInt8
inductive G (α : Type) : Type where
  | ret (a : α)
  | fail
  | look (k : Option BT → G α)
  | next (g : G α)
  | call (nt : NT) (k : nt.T → G α)
def G.bind {α β : Type} : G α → (α → G β) → G β
  | .ret a, f => f a
  | .fail, _ => .fail
  | .look k, f => .look fun o => (k o).bind f
  | .next g, f => .next (g.bind f)
  | .call nt k, f => .call nt fun v => (k v).bind f

abbrev Ans (α : Type) := Except (List Tok) (α × List Tok)
def evG (rec : (nt : NT) → List Tok → Option (Ans nt.T)) {α : Type} : G α → List Tok → Option (Ans α)
  | .ret a, l => some (.ok (a, l))
  | .fail, l => some (.error l)
  | .look k, l => evG rec (k (l.head?.map bare)) l
  | .next g, l => evG rec g l.tail
  | .call nt k, l => match rec nt l with
    | none => none
    | some (.error e) => some (.error e)
    | some (.ok (v, l')) => evG rec (k v) l'

/-! ### The grammar -/
def seesB (s : List UInt8) : Option BT → Bool
  | some x => !decide (x.1 = 2) && decide (x.2 = s)
  | none => false
def accepts (s : List UInt8) : G Bool := .look fun o => if seesB s o = true then .next (.ret true) else .ret false
def expect (s : List UInt8) : G Unit := .look fun o => if seesB s o = true then .next (.ret ()) else .fail
def keysL : List (List UInt8) := [[105, 110, 112, 117, 116], [111, 117, 116, 112, 117, 116], [112, 97, 114, 116], [97, 115, 115, 117, 109, 101], [103, 117, 97, 114, 97, 110, 116, 101, 101], [116, 114, 117, 101], [102, 97, 108, 115, 101], [97, 100, 100], [100, 114, 111, 112], [114, 101, 112, 108, 97, 99, 101]]
def restB (c : UInt8) : Bool := isSmall c || isDig c || decide (c.toNat = 95)
def nameB (s : List UInt8) : Bool :=
  decide (1 ≤ s.length) && decide (s.length ≤ 12) && isSmall (s.getD 0 0) && s.all restB && !decide (s ∈ keysL)
def nameG : G (List UInt8) := .look fun o => match o with
  | some x => if decide (x.1 = 1) && nameB x.2 then .next (.ret x.2) else .fail
  | none => .fail
def numOf (s : List UInt8) : Int := s.foldl (fun n c => 10 * n + ((c.toNat : Int) - 48)) 0
def numberG : G Int := .look fun o => match o with
  | some x => if decide (x.1 = 2) then .next (.ret (numOf x.2)) else .fail
  | none => .fail
def prefixT : List (List UInt8 × Opr) := [([33], ⟨4, 0, 0⟩), ([88], ⟨8, 0, 0⟩), ([89], ⟨15, 0, 0⟩), ([90], ⟨15, 0, 1⟩), ([79], ⟨18, 0, 0⟩), ([72], ⟨19, 0, 0⟩), ([70], ⟨11, 13, 0⟩), ([71], ⟨12, 14, 0⟩)]
def infixT : List (List UInt8 × Opr) := [([85], ⟨9, 0, 0⟩), ([82], ⟨10, 0, 0⟩), ([83], ⟨16, 16, 0⟩), ([84], ⟨17, 17, 1⟩)]
def takeG (tab : List (List UInt8 × Opr)) : G (Option Opr) := .look fun o => match o with
  | some x => match tab.lookup x.2 with
    | some p => .next (.ret (some p))
    | none => .ret none
  | none => .ret none
def indexG (o : Opr) : G (Option Int) := if o.indexed = 0 then .ret none else (accepts [91]).bind fun b =>
  if b then numberG.bind fun n => (expect [93]).bind fun _ => .ret (some n) else .ret none
def nodeF (op : Int) (l : List Fml) : Fml := match l with
  | [a] => a
  | l => ⟨op, [], 0, 0, l⟩
def isF (s : List UInt8) (n : Int) : Fml := ⟨3, s, n, 0, []⟩
def notF (f : Fml) : Fml := ⟨4, [], 0, 0, [f]⟩
def sees2 (s t : List UInt8) : G Bool := .look fun o => .ret (seesB s o || seesB t o)
def body : (nt : NT) → G nt.T
  | .formula => .call .orN fun a => (accepts [45, 62]).bind fun b => if b then .call .formula fun c => .ret ⟨7, [], 0, 0, [a, c]⟩ else .ret a
  | .orN => .call .andN fun a => .call .orL fun l => .ret (nodeF 6 (a :: l))
  | .orL => (accepts [124]).bind fun b => if b then .call .andN fun a => .call .orL fun l => .ret (a :: l) else .ret []
  | .andN => .call .untilN fun a => .call .andL fun l => .ret (nodeF 5 (a :: l))
  | .andL => (accepts [38]).bind fun b => if b then .call .untilN fun a => .call .andL fun l => .ret (a :: l) else .ret []
  | .untilN => .call .unary fun a => (takeG infixT).bind fun
    | none => .ret a
    | some o => (indexG o).bind fun n => .call .untilN fun c => .ret ⟨o.op, [], n.getD o.val, 0, [a, c]⟩
  | .unary => (takeG prefixT).bind fun
    | none => .call .primary .ret
    | some o => (indexG o).bind fun n => .call .unary fun a => .ret (match n with
      | some n => ⟨o.indexed, [], o.val, n, [a]⟩
      | none => ⟨o.op, [], o.val, 0, [a]⟩)
  | .primary => (accepts [116, 114, 117, 101]).bind fun b => if b then .ret ⟨1, [], 0, 0, []⟩ else
    (accepts [102, 97, 108, 115, 101]).bind fun b => if b then .ret ⟨2, [], 0, 0, []⟩ else
    (accepts [40]).bind fun b => if b then .call .formula fun f => (expect [41]).bind fun _ => .ret f else
    nameG.bind fun s => (accepts [61]).bind fun b => if b then numberG.bind fun n => .ret (isF s n) else
    (accepts [33, 61]).bind fun b => if b then numberG.bind fun n => .ret (notF (isF s n)) else .ret (isF s 1)
  | .req => (accepts [97, 115, 115, 117, 109, 101]).bind fun b => (if b then .ret 1 else (expect [103, 117, 97, 114, 97, 110, 116, 101, 101]).bind fun _ => .ret 2).bind fun k =>
    nameG.bind fun s => (expect [58]).bind fun _ => .call .formula fun f => .ret ⟨[], s, k, f⟩
  | .line => .call .req fun r => (expect [59]).bind fun _ => .ret r
  | .lines => (sees2 [97, 115, 115, 117, 109, 101] [103, 117, 97, 114, 97, 110, 116, 101, 101]).bind fun b => if b then .call .line fun r => .call .lines fun l => .ret (r :: l) else .ret []
  | .part => (expect [112, 97, 114, 116]).bind fun _ => nameG.bind fun s => (expect [123]).bind fun _ => .call .lines fun l => (expect [125]).bind fun _ => .ret (l.map fun r => ⟨s, r.name, r.kind, r.formula⟩)
  | .parts => (sees2 [112, 97, 114, 116] [112, 97, 114, 116]).bind fun b => if b then .call .part fun l => .call .parts fun m => .ret (l :: m) else .ret []
  | .signal => (accepts [105, 110, 112, 117, 116]).bind fun i => (if i then .ret () else expect [111, 117, 116, 112, 117, 116]).bind fun _ => nameG.bind fun s =>
    ((accepts [58]).bind fun b => if b then numberG else .ret 2).bind fun n => (expect [59]).bind fun _ => .ret ⟨s, i, n⟩
  | .sigs => (sees2 [105, 110, 112, 117, 116] [111, 117, 116, 112, 117, 116]).bind fun b => if b then .call .signal fun x => .call .sigs fun l => .ret (x :: l) else .ret []
  | .spec => .call .sigs fun s => .call .parts fun r => .ret ⟨s, r.flatten⟩
  | .edit => (accepts [100, 114, 111, 112]).bind fun b => if b then nameG.bind fun s => .ret ⟨2, ⟨[], s, 0, zeroF⟩⟩ else
    (accepts [97, 100, 100]).bind fun b => (if b then .ret 1 else (expect [114, 101, 112, 108, 97, 99, 101]).bind fun _ => .ret 3).bind fun k =>
    nameG.bind fun p => .call .req fun r => .ret ⟨k, ⟨p, r.name, r.kind, r.formula⟩⟩
/-- a whole text -/
def whole (nt : NT) : G nt.T := .call nt fun v => .look fun o => match o with
  | none => .ret v
  | some _ => .fail

def evN : Nat → (nt : NT) → List Tok → Option (Ans nt.T)
  | 0, _, _ => none
  | n + 1, nt, l => evG (evN n) (body nt) l
def Run {α : Type} (p : G α) (l : List Tok) (r : Ans α) : Prop := ∃ n, evG (evN n) p l = some r
def RunN (nt : NT) (l : List Tok) (r : Ans nt.T) : Prop := Run (body nt) l r

/-! ### Runs -/
theorem evG_mono {f g : (nt : NT) → List Tok → Option (Ans nt.T)} (h : ∀ nt l r, f nt l = some r → g nt l = some r) {α : Type} : ∀ (p : G α) (l : List Tok) (r : Ans α), evG f p l = some r → evG g p l = some r
  | .ret a, l, r, hr => hr
  | .fail, l, r, hr => hr
  | .look k, l, r, hr => by simp only [evG] at hr ⊢; exact evG_mono h (k _) l r hr
  | .next q, l, r, hr => by simp only [evG] at hr ⊢; exact evG_mono h q _ r hr
  | .call nt k, l, r, hr => by
    simp only [evG] at hr ⊢
    cases hf : f nt l with
    | none => rw [hf] at hr; cases hr
    | some x =>
      rw [hf] at hr
      rw [h nt l x hf]
      cases x with
      | error e => exact hr
      | ok y => exact evG_mono h (k y.1) y.2 r hr
theorem evN_step : ∀ (n : Nat) (nt : NT) (l : List Tok) (r : Ans nt.T), evN n nt l = some r → evN (n + 1) nt l = some r
  | 0, nt, l, r, h => by cases h
  | n + 1, nt, l, r, h => by
    unfold evN at h ⊢
    exact evG_mono (fun nt l r h => evN_step n nt l r h) _ _ _ h
theorem evN_mono {n m : Nat} (h : n ≤ m) (nt : NT) (l : List Tok) (r : Ans nt.T) (hr : evN n nt l = some r) : evN m nt l = some r := by
  induction h with
  | refl => exact hr
  | step _ ih => exact evN_step _ _ _ _ ih
theorem ev_mono {n m : Nat} (h : n ≤ m) {α : Type} {p : G α} {l : List Tok} {r : Ans α} (hr : evG (evN n) p l = some r) : evG (evN m) p l = some r :=
  evG_mono (fun nt l r h' => evN_mono h nt l r h') p l r hr
theorem Run.det {α : Type} {p : G α} {l : List Tok} {r r' : Ans α} (h : Run p l r) (h' : Run p l r') : r = r' := by
  obtain ⟨n, hn⟩ := h
  obtain ⟨m, hm⟩ := h'
  have h1 := ev_mono (Nat.le_max_left n m) hn
  have h2 := ev_mono (Nat.le_max_right n m) hm
  rw [h1] at h2; exact Option.some.inj h2
theorem Run.ret {α : Type} (a : α) (l : List Tok) : Run (.ret a) l (.ok (a, l)) := ⟨0, rfl⟩
theorem Run.fail {α : Type} (l : List Tok) : Run (.fail : G α) l (.error l) := ⟨0, rfl⟩
theorem Run.look {α : Type} {k : Option BT → G α} {l : List Tok} {r : Ans α} (h : Run (k (l.head?.map bare)) l r) : Run (.look k) l r := h
theorem Run.next {α : Type} {g : G α} {l : List Tok} {r : Ans α} (h : Run g l.tail r) : Run (.next g) l r := h
theorem Run.call {α : Type} {nt : NT} {k : nt.T → G α} {l l' : List Tok} {v : nt.T} {r : Ans α} (h : RunN nt l (.ok (v, l'))) (h' : Run (k v) l' r) : Run (.call nt k) l r := by
  obtain ⟨n, hn⟩ := h
  obtain ⟨m, hm⟩ := h'
  refine ⟨max n m + 1, ?_⟩
  have h1 : evN (max n m + 1) nt l = some (.ok (v, l')) := ev_mono (Nat.le_max_left n m) hn
  simp only [evG, h1]
  exact ev_mono (by omega) hm
theorem Run.callE {α : Type} {nt : NT} {k : nt.T → G α} {l e : List Tok} (h : RunN nt l (.error e)) : Run (.call nt k) l (.error e) := by
  obtain ⟨n, hn⟩ := h
  refine ⟨n + 1, ?_⟩
  have h1 : evN (n + 1) nt l = some (.error e) := hn
  simp only [evG, h1]
theorem Run.call_inv {α : Type} {nt : NT} {k : nt.T → G α} {l : List Tok} {r : Ans α} (h : Run (.call nt k) l r) : (∃ v l', RunN nt l (.ok (v, l')) ∧ Run (k v) l' r) ∨ ∃ e, RunN nt l (.error e) ∧ r = .error e := by
  obtain ⟨n, hn⟩ := h
  simp only [evG] at hn
  cases n with
  | zero => simp [evN] at hn
  | succ n =>
    cases hf : evN (n + 1) nt l with
    | none => rw [hf] at hn; cases hn
    | some x =>
      rw [hf] at hn
      have hf' : evG (evN n) (body nt) l = some x := hf
      cases x with
      | error e => cases hn; exact .inr ⟨e, ⟨n, hf'⟩, rfl⟩
      | ok y => exact .inl ⟨y.1, y.2, ⟨n, hf'⟩, ⟨n + 1, hn⟩⟩
theorem evG_bind (f : (nt : NT) → List Tok → Option (Ans nt.T)) {α β : Type} : ∀ (p : G α) (q : α → G β) (l : List Tok), evG f (p.bind q) l = match evG f p l with
    | none => none
    | some (.error e) => some (.error e)
    | some (.ok (a, l')) => evG f (q a) l'
  | .ret a, q, l => rfl
  | .fail, q, l => rfl
  | .look k, q, l => by simp only [G.bind, evG]; exact evG_bind f (k _) q l
  | .next g, q, l => by simp only [G.bind, evG]; exact evG_bind f g q _
  | .call nt k, q, l => by
    simp only [G.bind, evG]
    cases f nt l with
    | none => rfl
    | some x =>
      cases x with
      | error e => rfl
      | ok y => exact evG_bind f (k y.1) q y.2
theorem Run.bind {α β : Type} {p : G α} {q : α → G β} {l l' : List Tok} {a : α} {r : Ans β} (h : Run p l (.ok (a, l'))) (h' : Run (q a) l' r) : Run (p.bind q) l r := by
  obtain ⟨n, hn⟩ := h
  obtain ⟨m, hm⟩ := h'
  refine ⟨max n m, ?_⟩
  rw [evG_bind, ev_mono (Nat.le_max_left n m) hn]
  exact ev_mono (Nat.le_max_right n m) hm
theorem Run.bindE {α β : Type} {p : G α} {q : α → G β} {l e : List Tok} (h : Run p l (.error e)) : Run (p.bind q) l (.error e) := by
  obtain ⟨n, hn⟩ := h
  exact ⟨n, by rw [evG_bind, hn]⟩
theorem Run.bind_inv {α β : Type} {p : G α} {q : α → G β} {l : List Tok} {r : Ans β} (h : Run (p.bind q) l r) : (∃ a l', Run p l (.ok (a, l')) ∧ Run (q a) l' r) ∨ ∃ e, Run p l (.error e) ∧ r = .error e := by
  obtain ⟨n, hn⟩ := h
  rw [evG_bind] at hn
  cases hf : evG (evN n) p l with
  | none => rw [hf] at hn; cases hn
  | some x =>
    rw [hf] at hn
    cases x with
    | error e => cases hn; exact .inr ⟨e, ⟨n, hf⟩, rfl⟩
    | ok y => exact .inl ⟨y.1, y.2, ⟨n, hf⟩, ⟨n, hn⟩⟩
end Go.Proofs.YtmnhnbpnjepkbaaGreatDoor

namespace Go.Proofs.YtmnhnbpnjepkbaaGreatDoor
set_option linter.unusedVariables false

/-- what is left -/
def Ans.rem {α : Type} : Ans α → List Tok
  | .ok y => y.2
  | .error e => e
theorem evG_suffix {f : (nt : NT) → List Tok → Option (Ans nt.T)} (hf : ∀ nt l r, f nt l = some r → Ans.rem r <:+ l) {α : Type} : ∀ (p : G α) (l : List Tok) (r : Ans α), evG f p l = some r → Ans.rem r <:+ l
  | .ret a, l, r, h => by cases h; exact List.suffix_rfl
  | .fail, l, r, h => by cases h; exact List.suffix_rfl
  | .look k, l, r, h => evG_suffix hf (k _) l r h
  | .next g, l, r, h => (evG_suffix hf g l.tail r h).trans (List.tail_suffix l)
  | .call nt k, l, r, h => by
    simp only [evG] at h
    cases hn : f nt l with
    | none => rw [hn] at h; cases h
    | some x =>
      rw [hn] at h
      have h1 := hf nt l x hn
      cases x with
      | error e => cases h; exact h1
      | ok y => exact (evG_suffix hf (k y.1) y.2 r h).trans h1
theorem evN_suffix : ∀ (n : Nat) (nt : NT) (l : List Tok) (r : Ans nt.T), evN n nt l = some r → Ans.rem r <:+ l
  | 0, _, _, _, h => by cases h
  | n + 1, nt, l, r, h => evG_suffix (evN_suffix n) (body nt) l r h
theorem Run.suffix {α : Type} {p : G α} {l : List Tok} {r : Ans α} (h : Run p l r) : Ans.rem r <:+ l := by
  obtain ⟨n, hn⟩ := h; exact evG_suffix (evN_suffix n) p l r hn
theorem Run.nil {α : Type} {p : G α} {r : Ans α} (h : Run p [] r) : Ans.rem r = [] := List.suffix_nil.1 h.suffix
theorem RunN.le {nt : NT} {l l' : List Tok} {v : nt.T} (h : RunN nt l (.ok (v, l'))) : l'.length ≤ l.length := (show l' <:+ l from Run.suffix h).length_le

/-! ### Tokens at other places -/
def AR {α : Type} : Ans α → Ans α → Prop
  | .ok y, .ok z => y.1 = z.1 ∧ y.2.map bare = z.2.map bare
  | .error e, .error e' => e.map bare = e'.map bare
  | _, _ => False
theorem head_bare {l l' : List Tok} (h : l.map bare = l'.map bare) : l.head?.map bare = l'.head?.map bare := by
  cases l <;> cases l' <;> simp_all
theorem tail_bare {l l' : List Tok} (h : l.map bare = l'.map bare) : l.tail.map bare = l'.tail.map bare := by
  cases l <;> cases l' <;> simp_all
theorem evG_bare {f : (nt : NT) → List Tok → Option (Ans nt.T)} (hf : ∀ nt l l' r, l.map bare = l'.map bare → f nt l = some r → ∃ r', f nt l' = some r' ∧ AR r r') {α : Type} : ∀ (p : G α) (l l' : List Tok) (r : Ans α), l.map bare = l'.map bare → evG f p l = some r → ∃ r', evG f p l' = some r' ∧ AR r r'
  | .ret a, l, l', r, hl, h => by cases h; exact ⟨_, rfl, rfl, hl⟩
  | .fail, l, l', r, hl, h => by cases h; exact ⟨_, rfl, hl⟩
  | .look k, l, l', r, hl, h => by
    simp only [evG] at h ⊢
    rw [← head_bare hl]
    exact evG_bare hf (k _) l l' r hl h
  | .next g, l, l', r, hl, h => evG_bare hf g l.tail l'.tail r (tail_bare hl) h
  | .call nt k, l, l', r, hl, h => by
    simp only [evG] at h ⊢
    cases hn : f nt l with
    | none => rw [hn] at h; cases h
    | some x =>
      rw [hn] at h
      obtain ⟨x', h1, h2⟩ := hf nt l l' x hl hn
      rw [h1]
      cases x with
      | error e =>
        cases h
        cases x' with
        | error e' => exact ⟨_, rfl, h2⟩
        | ok y => exact h2.elim
      | ok y =>
        cases x' with
        | error e' => exact h2.elim
        | ok z =>
          obtain ⟨g1, g2⟩ := h2
          simp only at h ⊢
          rw [← g1]
          exact evG_bare hf (k y.1) y.2 z.2 r g2 h
theorem evN_bare : ∀ (n : Nat) (nt : NT) (l l' : List Tok) (r : Ans nt.T), l.map bare = l'.map bare → evN n nt l = some r → ∃ r', evN n nt l' = some r' ∧ AR r r'
  | 0, _, _, _, _, _, h => by cases h
  | n + 1, nt, l, l', r, hl, h => evG_bare (evN_bare n) (body nt) l l' r hl h
theorem Run.bare {α : Type} {p : G α} {l l' : List Tok} {r : Ans α} (hl : l.map bare = l'.map bare) (h : Run p l r) : ∃ r', Run p l' r' ∧ AR r r' := by
  obtain ⟨n, hn⟩ := h
  obtain ⟨r', h1, h2⟩ := evG_bare (evN_bare n) p l l' r hl hn
  exact ⟨r', ⟨n, h1⟩, h2⟩

/-! ### One token is looked at, no more -/
theorem suf_app {r : List Tok} {x : Tok} {l1 : List Tok} (h : l1 ++ x :: r <:+ r) : False := by
  have := h.length_le; simp at this; omega
def Ahead {α : Type} (F : List Tok → Option (Ans α)) : Prop := ∀ (l1 l1' : List Tok) (x : Tok) (r r2 : List Tok),
  (∀ v, F (l1 ++ x :: r) = some (.ok (v, l1' ++ x :: r)) → F (l1 ++ x :: r2) = some (.ok (v, l1' ++ x :: r2))) ∧
  (F (l1 ++ x :: r) = some (.error (l1' ++ x :: r)) → F (l1 ++ x :: r2) = some (.error (l1' ++ x :: r2)))
theorem suf_mid {l : List Tok} {x : Tok} {l' r l1 : List Tok} (h : l <:+ l1 ++ x :: r) (h' : l' ++ x :: r <:+ l) : ∃ l0, l = l0 ++ x :: r := by
  obtain ⟨t, ht⟩ := h'
  exact ⟨t ++ l', by rw [← ht]; simp⟩
theorem evG_ahead {f : (nt : NT) → List Tok → Option (Ans nt.T)} (hf : ∀ nt, Ahead (f nt)) (hs : ∀ nt l r, f nt l = some r → Ans.rem r <:+ l) {α : Type} : ∀ p : G α, Ahead (evG f p)
  | .ret a => fun l1 l1' x r r2 => ⟨fun v h => by
      simp only [evG, Option.some.injEq, Except.ok.injEq, Prod.mk.injEq] at h ⊢
      obtain ⟨h1, h2⟩ := h
      exact ⟨h1, by rw [List.append_cancel_right h2]⟩, fun h => by simp [evG] at h⟩
  | .fail => fun l1 l1' x r r2 => ⟨fun v h => by simp [evG] at h, fun h => by
      simp only [evG, Option.some.injEq, Except.error.injEq] at h ⊢
      rw [List.append_cancel_right h]⟩
  | .look k => fun l1 l1' x r r2 => by
    have hh : (l1 ++ x :: r2).head?.map bare = (l1 ++ x :: r).head?.map bare := by cases l1 <;> rfl
    have := evG_ahead hf hs (k ((l1 ++ x :: r).head?.map bare)) l1 l1' x r r2
    simp only [evG]
    rw [hh]
    exact this
  | .next g => fun l1 l1' x r r2 => by
    simp only [evG]
    cases l1 with
    | nil =>
      refine ⟨fun v h => ?_, fun h => ?_⟩
      · exact (suf_app (show l1' ++ x :: r <:+ r from evG_suffix hs g _ _ h)).elim
      · exact (suf_app (show l1' ++ x :: r <:+ r from evG_suffix hs g _ _ h)).elim
    | cons y l1 => exact evG_ahead hf hs g l1 l1' x r r2
  | .call nt k => fun l1 l1' x r r2 => by
    simp only [evG]
    cases hn : f nt (l1 ++ x :: r) with
    | none => exact ⟨fun v h => (by cases h), fun h => (by cases h)⟩
    | some z =>
      have hz := hs nt _ z hn
      cases z with
      | error e =>
        refine ⟨fun v h => (by cases h), fun h => ?_⟩
        simp only [Option.some.injEq, Except.error.injEq] at h
        subst h
        rw [(hf nt l1 l1' x r r2).2 hn]
      | ok y =>
        obtain ⟨v, l'⟩ := y
        have go : (∀ u, evG f (k v) l' = some (.ok (u, l1' ++ x :: r)) → ∃ l0, l' = l0 ++ x :: r) ∧ (evG f (k v) l' = some (.error (l1' ++ x :: r)) → ∃ l0, l' = l0 ++ x :: r) :=
          ⟨fun u h => suf_mid (l1 := l1) hz (show l1' ++ x :: r <:+ l' from evG_suffix hs (k v) _ _ h), fun h => suf_mid (l1 := l1) hz (show l1' ++ x :: r <:+ l' from evG_suffix hs (k v) _ _ h)⟩
        refine ⟨fun u h => ?_, fun h => ?_⟩
        · obtain ⟨l0, rfl⟩ := go.1 u h
          rw [(hf nt l1 l0 x r r2).1 v hn]
          exact (evG_ahead hf hs (k v) l0 l1' x r r2).1 u h
        · obtain ⟨l0, rfl⟩ := go.2 h
          rw [(hf nt l1 l0 x r r2).1 v hn]
          exact (evG_ahead hf hs (k v) l0 l1' x r r2).2 h
theorem evN_ahead : ∀ (n : Nat) (nt : NT), Ahead (evN n nt)
  | 0, _ => fun _ _ _ _ _ => ⟨fun _ h => (by cases h), fun h => (by cases h)⟩
  | n + 1, nt => evG_ahead (evN_ahead n) (evN_suffix n) (body nt)
theorem Run.ahead {α : Type} {p : G α} {l1 l1' : List Tok} {x : Tok} {r : List Tok} (r2 : List Tok) {v : α} (h : Run p (l1 ++ x :: r) (.ok (v, l1' ++ x :: r))) : Run p (l1 ++ x :: r2) (.ok (v, l1' ++ x :: r2)) := by
  obtain ⟨n, hn⟩ := h
  exact ⟨n, (evG_ahead (evN_ahead n) (evN_suffix n) p l1 l1' x r r2).1 v hn⟩
theorem Run.aheadE {α : Type} {p : G α} {l1 l1' : List Tok} {x : Tok} {r : List Tok} (r2 : List Tok) (h : Run p (l1 ++ x :: r) (.error (l1' ++ x :: r))) : Run p (l1 ++ x :: r2) (.error (l1' ++ x :: r2)) := by
  obtain ⟨n, hn⟩ := h
  exact ⟨n, (evG_ahead (evN_ahead n) (evN_suffix n) p l1 l1' x r r2).2 hn⟩

/-- the tokens before: the same, or all is read -/
def Before {α : Type} (F F' : List Tok → Option (Ans α)) : Prop := ∀ (l1 l1' : List Tok) (x : Tok) (r : List Tok) (r0 : Ans α), F' l1 = some r0 →
  (∀ v, F (l1 ++ x :: r) = some (.ok (v, l1' ++ x :: r)) → r0 = .ok (v, l1') ∨ Ans.rem r0 = []) ∧
  (F (l1 ++ x :: r) = some (.error (l1' ++ x :: r)) → r0 = .error l1' ∨ Ans.rem r0 = [])
theorem evG_before {f f' : (nt : NT) → List Tok → Option (Ans nt.T)} (hf : ∀ nt, Before (f nt) (f' nt)) (hs : ∀ nt l r, f nt l = some r → Ans.rem r <:+ l) (hs' : ∀ nt l r, f' nt l = some r → Ans.rem r <:+ l) {α : Type} : ∀ p : G α, Before (evG f p) (evG f' p)
  | .ret a => fun l1 l1' x r r0 h0 => ⟨fun v h => by
      simp only [evG, Option.some.injEq, Except.ok.injEq, Prod.mk.injEq] at h h0
      obtain ⟨h1, h2⟩ := h
      rw [← h0, h1, List.append_cancel_right h2]; exact .inl rfl, fun h => by simp [evG] at h⟩
  | .fail => fun l1 l1' x r r0 h0 => ⟨fun v h => by simp [evG] at h, fun h => by
      simp only [evG, Option.some.injEq, Except.error.injEq] at h h0
      rw [← h0, List.append_cancel_right h]; exact .inl rfl⟩
  | .look k => fun l1 l1' x r r0 h0 => by
    cases l1 with
    | nil =>
      have : Ans.rem r0 = [] := List.suffix_nil.1 (evG_suffix hs' (.look k) _ _ h0)
      exact ⟨fun _ _ => .inr this, fun _ => .inr this⟩
    | cons y l1 => exact evG_before hf hs hs' (k (some (Go.Proofs.YtmnhnbpnjepkbaaGreatDoor.bare y))) (y :: l1) l1' x r r0 h0
  | .next g => fun l1 l1' x r r0 h0 => by
    cases l1 with
    | nil =>
      have : Ans.rem r0 = [] := List.suffix_nil.1 (evG_suffix hs' (.next g) _ _ h0)
      exact ⟨fun _ _ => .inr this, fun _ => .inr this⟩
    | cons y l1 => exact evG_before hf hs hs' g l1 l1' x r r0 h0
  | .call nt k => fun l1 l1' x r r0 h0 => by
    simp only [evG] at h0 ⊢
    cases h1 : f' nt l1 with
    | none => rw [h1] at h0; cases h0
    | some z0 =>
      rw [h1] at h0
      cases hn : f nt (l1 ++ x :: r) with
      | none => exact ⟨fun v h => (by cases h), fun h => (by cases h)⟩
      | some z =>
        have hz := hs nt _ z hn
        have fin : Ans.rem z0 = [] → Ans.rem r0 = [] := fun he => by
          cases z0 with
          | error e => cases h0; exact he
          | ok y =>
            have hy : y.2 = [] := he
            simp only at h0
            rw [hy] at h0
            exact List.suffix_nil.1 (evG_suffix hs' (k y.1) _ _ h0)
        cases z with
        | error e =>
          refine ⟨fun v h => (by cases h), fun h => ?_⟩
          simp only [Option.some.injEq, Except.error.injEq] at h
          subst h
          rcases (hf nt l1 l1' x r z0 h1).2 hn with rfl | he
          · cases h0; exact .inl rfl
          · exact .inr (fin he)
        | ok y =>
          obtain ⟨v, l'⟩ := y
          refine ⟨fun u h => ?_, fun h => ?_⟩
          · obtain ⟨l0, rfl⟩ := suf_mid (l1 := l1) hz (show l1' ++ x :: r <:+ l' from evG_suffix hs (k v) _ _ h)
            rcases (hf nt l1 l0 x r z0 h1).1 v hn with rfl | he
            · exact (evG_before hf hs hs' (k v) l0 l1' x r r0 h0).1 u h
            · exact .inr (fin he)
          · obtain ⟨l0, rfl⟩ := suf_mid (l1 := l1) hz (show l1' ++ x :: r <:+ l' from evG_suffix hs (k v) _ _ h)
            rcases (hf nt l1 l0 x r z0 h1).1 v hn with rfl | he
            · exact (evG_before hf hs hs' (k v) l0 l1' x r r0 h0).2 h
            · exact .inr (fin he)
theorem evN_before : ∀ (n m : Nat) (nt : NT), Before (evN n nt) (evN m nt)
  | 0, _, _ => fun _ _ _ _ _ _ => ⟨fun _ h => (by cases h), fun h => (by cases h)⟩
  | n + 1, 0, _ => fun _ _ _ _ _ h => by cases h
  | n + 1, m + 1, nt => evG_before (evN_before n m) (evN_suffix n) (evN_suffix m) (body nt)
theorem Run.before {α : Type} {p : G α} {l1 : List Tok} {x : Tok} {r : List Tok} {r0 : Ans α} (h : Run p (l1 ++ x :: r) (.error (x :: r))) (h0 : Run p l1 r0) : Ans.rem r0 = [] := by
  obtain ⟨n, hn⟩ := h
  obtain ⟨m, hm⟩ := h0
  rcases (evG_before (evN_before n m) (evN_suffix n) (evN_suffix m) p l1 [] x r r0 hm).2 hn with rfl | he
  · rfl
  · exact he

/-! ### Where a run stops -/
def Good (S : NT → Prop) (x : BT) {α : Type} : Bool → G α → Prop
  | _, .ret _ => True
  | _, .fail => True
  | b, .look k => (∀ y, Good S x true (k (some y))) ∧ (b = true ∨ k none = .fail ∨ (k none = k (some x) ∧ Good S x false (k none)))
  | b, .next g => b = true ∧ Good S x false g
  | _, .call nt k => S nt ∧ ∀ v, Good S x false (k v)
theorem evG_good {S : NT → Prop} {f : (nt : NT) → List Tok → Option (Ans nt.T)} {x : Tok} {r : List Tok} (hf : ∀ nt, S nt → ∀ l v, f nt l = some (.ok (v, [])) → f nt (l ++ x :: r) = some (.ok (v, x :: r)))
    (ha : ∀ nt, Ahead (f nt)) (ho : ∀ nt l v l' y, f nt l = some (.ok (v, y :: l')) → f nt (l ++ x :: r) = some (.ok (v, (y :: l') ++ x :: r))) {α : Type} : ∀ (p : G α) (b : Bool) (l : List Tok) (v : α), Good S (Go.Proofs.YtmnhnbpnjepkbaaGreatDoor.bare x) b p → (b = true → l ≠ []) → evG f p l = some (.ok (v, [])) → evG f p (l ++ x :: r) = some (.ok (v, x :: r))
  | .ret a, b, l, v, _, _, h => by
    simp only [evG, Option.some.injEq, Except.ok.injEq, Prod.mk.injEq] at h ⊢
    obtain ⟨rfl, rfl⟩ := h
    exact ⟨rfl, rfl⟩
  | .fail, b, l, v, _, _, h => by simp [evG] at h
  | .look k, b, l, v, hg, hb, h => by
    simp only [evG] at h ⊢
    cases l with
    | nil =>
      simp only [List.head?_nil, Option.map_none] at h
      rcases hg.2 with hg2 | hg2 | ⟨hg2, hg3⟩
      · exact absurd rfl (hb hg2)
      · rw [hg2] at h; simp [evG] at h
      · have := evG_good hf ha ho (k none) false [] v hg3 (fun h => by cases h) h
        simp only [List.nil_append, List.head?_cons, Option.map_some] at this ⊢
        rw [← hg2]; exact this
    | cons y l => exact evG_good hf ha ho (k (some (Go.Proofs.YtmnhnbpnjepkbaaGreatDoor.bare y))) true (y :: l) v (hg.1 _) (fun _ => by simp) h
  | .next g, b, l, v, hg, hb, h => by
    simp only [evG] at h ⊢
    cases l with
    | nil => exact absurd rfl (hb hg.1)
    | cons y l => exact evG_good hf ha ho g false l v hg.2 (fun h => by cases h) h
  | .call nt k, b, l, v, hg, hb, h => by
    simp only [evG] at h ⊢
    cases hn : f nt l with
    | none => rw [hn] at h; cases h
    | some z =>
      rw [hn] at h
      cases z with
      | error e => cases h
      | ok y =>
        obtain ⟨u, l'⟩ := y
        simp only at h
        cases l' with
        | nil =>
          rw [hf nt hg.1 l u hn]
          exact evG_good hf ha ho (k u) false [] v (hg.2 u) (fun h => by cases h) h
        | cons y l' =>
          rw [ho nt l u l' y hn]
          exact evG_good hf ha ho (k u) false (y :: l') v (hg.2 u) (fun h => by cases h) h
/-- where something is left, what follows does not matter -/
theorem evN_left {n : Nat} {nt : NT} {l l' : List Tok} {v : nt.T} {y : Tok} (r : List Tok) (h : evN n nt l = some (.ok (v, y :: l'))) : evN n nt (l ++ r) = some (.ok (v, (y :: l') ++ r)) := by
  obtain ⟨t, ht⟩ := (show y :: l' <:+ l from evN_suffix n nt l _ h)
  subst ht
  have := (evN_ahead n nt t [] y l' (l' ++ r)).1 v h
  simpa using this
theorem evN_good {S : NT → Prop} {x : Tok} {r : List Tok} (hS : ∀ nt, S nt → Good S (Go.Proofs.YtmnhnbpnjepkbaaGreatDoor.bare x) false (body nt)) : ∀ (n : Nat) (nt : NT), S nt → ∀ l v, evN n nt l = some (.ok (v, [])) → evN n nt (l ++ x :: r) = some (.ok (v, x :: r))
  | 0, _, _, _, _, h => by cases h
  | n + 1, nt, hs, l, v, h => evG_good (evN_good hS n) (evN_ahead n) (fun nt l v l' y h => evN_left _ h) (body nt) false l v (hS nt hs) (fun h => by cases h) h
theorem RunN.stop {S : NT → Prop} {x : Tok} (hS : ∀ nt, S nt → Good S (Go.Proofs.YtmnhnbpnjepkbaaGreatDoor.bare x) false (body nt)) {nt : NT} (hs : S nt) {l : List Tok} {v : nt.T} (r : List Tok) (h : RunN nt l (.ok (v, []))) : RunN nt (l ++ x :: r) (.ok (v, x :: r)) := by
  obtain ⟨n, hn⟩ := h
  exact ⟨n, evN_good hS (n + 1) nt hs l v hn⟩
theorem RunN.left {nt : NT} {l l' : List Tok} {v : nt.T} {y : Tok} (r : List Tok) (h : RunN nt l (.ok (v, y :: l'))) : RunN nt (l ++ r) (.ok (v, (y :: l') ++ r)) := by
  obtain ⟨n, hn⟩ := h
  exact ⟨n, evN_left (n := n + 1) r hn⟩
end Go.Proofs.YtmnhnbpnjepkbaaGreatDoor

namespace Go.Proofs.YtmnhnbpnjepkbaaGreatDoor
open Go.RowKit
set_option linter.unusedVariables false

/-! ### Formulas in memory -/
inductive FAt (ok : Nat → Prop) (w : World) : Value → Fml → Prop where
  | mk (op : Int) (name : List UInt8) (val bound : Int) (args : List Fml) (av : Value) (L : List (List Value)) (hS : Sl ok w av args.length L.flatten) (hL : L.length = args.length) (h5 : ∀ c ∈ L, c.length = 5)
      (hA : ∀ (i : Nat) (c : List Value) (g : Fml), L[i]? = some c → args[i]? = some g → FAt ok w (.agg c.toArray) g) : FAt ok w (.agg #[.int .i64 op, strV name, .int .i64 val, .int .i64 bound, av]) ⟨op, name, val, bound, args⟩
theorem FAt.keep {ok : Nat → Prop} {X : List Nat} {w w' : World} {v : Value} {f : Fml} (h : FAt ok w v f) (k : Keep X w w') (hX : ∀ b, ok b → b ∉ X) : FAt ok w' v f := by
  induction h with
  | mk op name val bound args av L hS hL h5 hA ih => exact .mk op name val bound args av L (hS.keep k hX) hL h5 ih
theorem FAt.ext {ok : Nat → Prop} {w w' : World} {v : Value} {f : Fml} (h : FAt ok w v f) (k : Ext w w') : FAt ok w' v f := h.keep k fun _ _ => by simp
theorem FAt.mono {ok ok' : Nat → Prop} {w : World} {v : Value} {f : Fml} (h : FAt ok w v f) (hk : ∀ b, ok b → ok' b) : FAt ok' w v f := by
  induction h with
  | mk op name val bound args av L hS hL h5 hA ih => exact .mk op name val bound args av L (hS.mono hk) hL h5 ih
theorem Sl.lt {ok : Nat → Prop} {w : World} {v : Value} {n : Nat} {cs : List Value} (h : Sl ok w v n cs) (hc : n ≠ 0 → cs ≠ []) : Sl (fun b => ok b ∧ b < w.heap.size) w v n cs := by
  obtain ⟨a, cap, hv, h1, h2, h3, h4⟩ := h
  refine ⟨a, cap, hv, h1, h2, h3, ?_⟩
  by_cases h0 : n = 0
  · exact .inl h0
  · obtain ⟨b, off, ha, hb, hcc⟩ := h4.resolve_left h0
    refine .inr ⟨b, off, ha, ⟨hb, ?_⟩, hcc⟩
    match cs, hc h0 with
    | u :: cs, _ => exact World.block_lt_of_cell? w _ (hcc 0 u rfl)
theorem flatten_ne {L : List (List Value)} {n : Nat} (hL : L.length = n) (h5 : ∀ c ∈ L, c.length = 5) : n ≠ 0 → L.flatten ≠ [] := by
  intro h0 e
  match L, hL with
  | [], hL => exact h0 hL.symm
  | c :: L, _ =>
    have := h5 c (by simp)
    simp at e
    simp [e.1] at this
theorem FAt.lt {ok : Nat → Prop} {w : World} {v : Value} {f : Fml} (h : FAt ok w v f) : FAt (fun b => ok b ∧ b < w.heap.size) w v f := by
  induction h with
  | mk op name val bound args av L hS hL h5 hA ih => exact .mk op name val bound args av L (hS.lt (flatten_ne hL h5)) hL h5 ih
theorem FAt.form {ok : Nat → Prop} {w : World} {v : Value} {f : Fml} (h : FAt ok w v f) : ∃ av, v = .agg #[.int .i64 f.op, strV f.name, .int .i64 f.val, .int .i64 f.bound, av] ∧
    ∃ L : List (List Value), Sl ok w av f.args.length L.flatten ∧ L.length = f.args.length ∧ (∀ c ∈ L, c.length = 5) ∧ ∀ (i : Nat) (c : List Value) (g : Fml), L[i]? = some c → f.args[i]? = some g → FAt ok w (.agg c.toArray) g := by
  cases h with
  | mk op name val bound args av L hS hL h5 hA => exact ⟨av, rfl, L, hS, hL, h5, hA⟩
/-- a formula without arguments -/
theorem FAt.leaf (ok : Nat → Prop) (w : World) (op : Int) (name : List UInt8) (val bound : Int) : FAt ok w (.agg #[.int .i64 op, strV name, .int .i64 val, .int .i64 bound, .slice none 0 0]) ⟨op, name, val, bound, []⟩ :=
  .mk op name val bound [] _ [] ⟨none, 0, rfl, by simp, by omega, fun _ => rfl, .inl rfl⟩ rfl (fun c hc => by cases hc) (fun i c g h => by simp at h)

/-- formulas one after the other -/
def FsAt (ok : Nat → Prop) (w : World) (L : List (List Value)) (l : List Fml) : Prop :=
  L.length = l.length ∧ (∀ c ∈ L, c.length = 5) ∧ ∀ (i : Nat) (c : List Value) (g : Fml), L[i]? = some c → l[i]? = some g → FAt ok w (.agg c.toArray) g
theorem FsAt.nil (ok : Nat → Prop) (w : World) : FsAt ok w [] [] := ⟨rfl, (fun c hc => by cases hc), fun i c g h => by simp at h⟩
theorem FsAt.cons {ok : Nat → Prop} {w : World} {c : List Value} {f : Fml} {L : List (List Value)} {l : List Fml} (h : FAt ok w (.agg c.toArray) f) (hc : c.length = 5) (hl : FsAt ok w L l) : FsAt ok w (c :: L) (f :: l) := by
  refine ⟨by simp [hl.1], fun d hd => ?_, fun i d g hi hg => ?_⟩
  · rcases List.mem_cons.1 hd with rfl | hd
    · exact hc
    · exact hl.2.1 d hd
  · cases i with
    | zero => simp at hi hg; subst hi hg; exact h
    | succ i => exact hl.2.2 i d g (by simpa using hi) (by simpa using hg)
theorem FsAt.snoc {ok : Nat → Prop} {w : World} {c : List Value} {f : Fml} : ∀ {L : List (List Value)} {l : List Fml}, FsAt ok w L l → FAt ok w (.agg c.toArray) f → c.length = 5 → FsAt ok w (L ++ [c]) (l ++ [f])
  | [], [], _, h, hc => FsAt.cons h hc (FsAt.nil ok w)
  | [], _ :: _, hl, _, _ => by have := hl.1; simp at this
  | _ :: _, [], hl, _, _ => by have := hl.1; simp at this
  | d :: L, g :: l, hl, h, hc => FsAt.cons (hl.2.2 0 d g rfl rfl) (hl.2.1 d (by simp)) (FsAt.snoc ⟨by simpa using hl.1, fun c hc => hl.2.1 c (by simp [hc]), fun i c g hi hg => hl.2.2 (i + 1) c g (by simpa using hi) (by simpa using hg)⟩ h hc)
theorem FsAt.keep {ok : Nat → Prop} {X : List Nat} {w w' : World} {L : List (List Value)} {l : List Fml} (h : FsAt ok w L l) (k : Keep X w w') (hX : ∀ b, ok b → b ∉ X) : FsAt ok w' L l :=
  ⟨h.1, h.2.1, fun i c g hi hg => (h.2.2 i c g hi hg).keep k hX⟩
theorem FsAt.mono {ok ok' : Nat → Prop} {w : World} {L : List (List Value)} {l : List Fml} (h : FsAt ok w L l) (hk : ∀ b, ok b → ok' b) : FsAt ok' w L l :=
  ⟨h.1, h.2.1, fun i c g hi hg => (h.2.2 i c g hi hg).mono hk⟩
theorem FsAt.lt {ok : Nat → Prop} {w : World} {L : List (List Value)} {l : List Fml} (h : FsAt ok w L l) : FsAt (fun b => ok b ∧ b < w.heap.size) w L l :=
  ⟨h.1, h.2.1, fun i c g hi hg => (h.2.2 i c g hi hg).lt⟩
theorem FsAt.flat {ok : Nat → Prop} {w : World} {L : List (List Value)} {l : List Fml} (h : FsAt ok w L l) : L.flatten.length = l.length * 5 := by
  obtain ⟨h1, h2, h3⟩ := h
  rw [← h1]
  clear h1 h3
  induction L with
  | nil => rfl
  | cons c L ih =>
    have := h2 c (by simp)
    have := ih fun d hd => h2 d (by simp [hd])
    simp only [List.flatten_cons, List.length_append, List.length_cons]; omega
/-- a node over a slice of formulas -/
theorem FAt.node {ok : Nat → Prop} {w : World} {av : Value} {L : List (List Value)} {l : List Fml} (op : Int) (name : List UInt8) (val bound : Int) (hS : Sl ok w av l.length L.flatten) (h : FsAt ok w L l) :
    FAt ok w (.agg #[.int .i64 op, strV name, .int .i64 val, .int .i64 bound, av]) ⟨op, name, val, bound, l⟩ := .mk op name val bound l av L hS h.1 h.2.1 h.2.2
/-- the cells of a formula -/
theorem FAt.cells {ok : Nat → Prop} {w : World} {v : Value} {f : Fml} (h : FAt ok w v f) : ∃ c : List Value, v = .agg c.toArray ∧ c.length = 5 ∧ oneC c := by
  obtain ⟨av, rfl, L, hS, _⟩ := h.form
  obtain ⟨a, cap, rfl, _⟩ := hS
  refine ⟨_, rfl, rfl, ?_⟩
  intro u hu
  simp at hu
  rcases hu with rfl | rfl | rfl | rfl | rfl <;> rfl

/-! ### The parser's state -/
structure Env where
  lo : Nat
  s : Nat
  n : Nat
  mp : Nat
  mi : Nat
/-- where the tokens lie -/
abbrev inE (E : Env) (b : Nat) : Prop := E.lo ≤ b ∧ b < E.s
def oprV (o : Opr) : Value := .agg #[.int .i64 o.op, .int .i64 o.indexed, .int .i64 o.val]
def tabV (t : List (List UInt8 × Opr)) : List (List UInt8 × Value) := t.map fun p => (p.1, oprV p.2)
/-- a number's text -/
def TokWf (x : Tok) : Prop := x.kind = 2 → 1 ≤ x.text.length ∧ x.text.length ≤ 4 ∧ ∀ c ∈ x.text, isDig c = true
structure PSt (w : World) (E : Env) (ts : List Tok) : Prop where
  blk : ∃ a c, Blk w E.s 112 [.slice a ts.length c, .int .i64 (E.n : Int), .map (some E.mp), .map (some E.mi)] ∧ Sl (inE E) w (.slice a ts.length c) ts.length (toksC ts)
  pre : SMap w E.mp (tabV prefixT)
  inf : SMap w E.mi (tabV infixT)
  lt : E.mp < E.s ∧ E.mi < E.s
  wf : ∀ x ∈ ts, TokWf x
  cnt : ts.length ≤ 2000
theorem PSt.keep {X : List Nat} {w w' : World} {E : Env} {ts : List Tok} (h : PSt w E ts) (k : Keep X w w') (hX : ∀ x ∈ X, E.s < x) : PSt w' E ts := by
  obtain ⟨⟨a, c, h1, h2⟩, h3, h4, h5, h6, h7⟩ := h
  have hn : ∀ b, b ≤ E.s → b ∉ X := fun b hb hx => by have := hX b hx; omega
  exact ⟨⟨a, c, h1.keep k (hn _ (Nat.le_refl _)), h2.keep k fun b hb => hn b (by have := hb.2; omega)⟩, h3.keep k (hn _ (by omega)), h4.keep k (hn _ (by omega)), h5, h6, h7⟩
theorem PSt.ext {w w' : World} {E : Env} {ts : List Tok} (h : PSt w E ts) (k : Ext w w') : PSt w' E ts := h.keep k fun x hx => by cases hx
theorem PSt.slt {w : World} {E : Env} {ts : List Tok} (h : PSt w E ts) : E.s < w.heap.size := by obtain ⟨_, _, h1, _⟩ := h.blk; exact h1.lt
abbrev failP (e : Int) (p : Nat) : List PanicEntry := [{ v := .iface 107 (.agg #[.int .i64 e, .int .i64 (p : Int)]), recovered := false }]
def errV (n : Nat) : List Tok → List PanicEntry
  | [] => failP 51 n
  | x :: _ => failP 50 x.loc

/-- a call that reads tokens as the program p says -/
def PDo {α : Type} (E : Env) (F : FuncId) (args : List Value) (w : World) (p : G α) (ts : List Tok) (Rep : World → Value → α → Prop) : Prop :=
  FnP Tryz.prog F args w (fun v w' => Keep [E.s] w w' ∧ ∃ a ts', Run p ts (.ok (a, ts')) ∧ PSt w' E ts' ∧ Rep w' v a) (fun ch w' => Keep [E.s] w w' ∧ ∃ l, Run p ts (.error l) ∧ ch = errV E.n l)

/-- the first token in memory -/
theorem PSt.tok {w : World} {E : Env} {x : Tok} {l : List Tok} {a : Option Addr} {c : Nat} (h : Sl (inE E) w (.slice a (x :: l).length c) (x :: l).length (toksC (x :: l))) :
    ∃ b o, a = some ⟨b, o, none⟩ ∧ 1 ≤ c ∧ (w.cell? ⟨b, o + 0 * 3 + 0, none⟩ = some (.int .i64 x.kind) ∧ w.cell? ⟨b, o + 0 * 3 + 1, none⟩ = some (strV x.text) ∧ w.cell? ⟨b, o + 0 * 3 + 2, none⟩ = some (.int .i64 (x.loc : Int))) ∧
      Sl (inE E) w (.slice (adv c 1 3 a) l.length (c - 1)) l.length (toksC l) := by
  obtain ⟨a', cap, hv, h1, h2, h3, h4⟩ := h
  cases hv
  obtain ⟨b, o, rfl, hb, hc⟩ := h4.resolve_left (by simp)
  have hl : (x :: l).length = l.length + 1 := rfl
  have e : toksC (x :: l) = tokC x ++ toksC l := by simp [toksC]
  refine ⟨b, o, rfl, by omega, ⟨hc 0 _ rfl, hc 1 _ rfl, hc 2 _ rfl⟩, _, _, rfl, by omega, by omega, ?_, ?_⟩
  · intro ha
    unfold adv at ha
    split at ha
    · cases ha
    · simp at ha
  · by_cases h0 : l.length = 0
    · exact .inl h0
    · refine .inr ⟨b, o + 3, ?_, hb, ?_⟩
      · unfold adv
        rw [if_neg (by omega)]
        rfl
      · intro i u hu
        have := hc (3 + i) u (by rw [e, List.getElem?_append_right (by simp [tokC])]; simpa [tokC] using hu)
        rw [Nat.add_assoc]; exact this
/-- the state after the first token is taken -/
theorem PSt.taken {w w' : World} {E : Env} {x : Tok} {l : List Tok} {a : Option Addr} {c : Nat} (h : PSt w E (x :: l)) (hs : Sl (inE E) w (.slice (adv c 1 3 a) l.length (c - 1)) l.length (toksC l))
    (p : Put w w' E.s 112 [.slice (adv c 1 3 a) l.length (c - 1), .int .i64 (E.n : Int), .map (some E.mp), .map (some E.mi)]) : PSt w' E l := by
  obtain ⟨_, h3, h4, h5, h6, h7⟩ := h
  have h51 := h5.1
  have h52 := h5.2
  refine ⟨⟨_, _, p.blk, hs.keep p.keep fun b hb => by have := hb.2; simp; omega⟩, h3.keep p.keep (by simp; omega), h4.keep p.keep (by simp; omega), h5, fun y hy => h6 y (by simp [hy]), by simp at h7; omega⟩

/-! ### wrong, sees, accepts, expect -/
theorem wrong_ok (E : Env) (w : World) (ts : List Tok) (h : PSt w E ts) {R : Value → World → Prop} : FnP Tryz.prog 62 [pt E.s] w R (fun ch w' => w' = w ∧ ch = errV E.n ts) := by
  obtain ⟨a, c, hb, hs⟩ := h.blk
  refine fnP_of_wc Tryz.func62 rfl Tryz.ntmps62 (Nat.le_of_ble_eq_true rfl) (by kernel_rfl) ?_
  repeat' first | refine nx ?_ | refine C_cond_t rfl ?_ | refine C_cond_f rfl ?_ | refine Q_block_on rfl ?_
  cases ts with
  | nil =>
    have hl : ([] : List Tok).length = 0 := rfl
    (refine C_region ?_
     <;> (first | refine M_ptr rfl ?_ | refine W_move ?_)
     <;> refine W_nilCheck rfl ?_
     <;> refine W_fieldAddr rfl ?_
     <;> (first | refine W_load rfl (Blk.cell (by assumption) (by rfl)) ?_ | refine W_load rfl (by assumption) ?_)
     <;> refine W_len rfl ?_
     <;> (refine W_eql rfl rfl (fun hc => ?_) (fun hc => ?_) <;> try (exfalso; omega))
     <;> refine W_nil ?_)
    repeat' first | refine nx ?_ | refine C_cond_t rfl ?_ | refine C_cond_f rfl ?_ | refine Q_block_on rfl ?_
    (refine C_region ?_
     <;> (first | refine M_ptr rfl ?_ | refine W_move ?_)
     <;> refine W_nilCheck rfl ?_
     <;> refine W_fieldAddr rfl ?_
     <;> (first | refine W_load rfl (Blk.cell (by assumption) (by rfl)) ?_ | refine W_load rfl (by assumption) ?_)
     <;> refine W_build (by rfl) (by rfl) ?_
     <;> refine W_iface ?_
     <;> refine W_panic rfl ?_)
    repeat' first | refine nx ?_ | refine C_cond_t rfl ?_ | refine C_cond_f rfl ?_ | refine Q_block_on rfl ?_
    exact fin_pan ⟨rfl, rfl⟩
  | cons x l =>
    have hl : (x :: l).length = l.length + 1 := rfl
    obtain ⟨b, o, rfl, _, ⟨hc0, hc1, hc2⟩, _⟩ := PSt.tok hs
    (refine C_region ?_
     <;> (first | refine M_ptr rfl ?_ | refine W_move ?_)
     <;> refine W_nilCheck rfl ?_
     <;> refine W_fieldAddr rfl ?_
     <;> (first | refine W_load rfl (Blk.cell (by assumption) (by rfl)) ?_ | refine W_load rfl (by assumption) ?_)
     <;> refine W_len rfl ?_
     <;> (refine W_eql rfl rfl (fun hc => ?_) (fun hc => ?_) <;> try (exfalso; omega))
     <;> refine W_nil ?_)
    repeat' first | refine nx ?_ | refine C_cond_t rfl ?_ | refine C_cond_f rfl ?_ | refine Q_block_on rfl ?_
    (refine C_region ?_
     <;> (first | refine M_ptr rfl ?_ | refine W_move ?_)
     <;> refine W_nilCheck rfl ?_
     <;> refine W_fieldAddr rfl ?_
     <;> (first | refine W_load rfl (Blk.cell (by assumption) (by rfl)) ?_ | refine W_load rfl (by assumption) ?_)
     <;> (first | refine W_idx1 rfl rfl rfl (by omega) ?_ | refine W_idx rfl rfl rfl (by omega) ?_ | refine W_indexAddr rfl rfl (by omega) (by omega) ?_)
     <;> refine W_fieldAddr rfl ?_
     <;> (first | refine W_load rfl (Blk.cell (by assumption) (by rfl)) ?_ | refine W_load rfl (by assumption) ?_)
     <;> refine W_build (by rfl) (by rfl) ?_
     <;> refine W_iface ?_
     <;> refine W_panic rfl ?_)
    repeat' first | refine nx ?_ | refine C_cond_t rfl ?_ | refine C_cond_f rfl ?_ | refine Q_block_on rfl ?_
    exact fin_pan ⟨rfl, rfl⟩
theorem sees_ok (E : Env) (w : World) (ts : List Tok) (t : List UInt8) (h : PSt w E ts) : Fn Tryz.prog 67 [pt E.s, strV t] w (fun v w' => v = .bool (seesB t (ts.head?.map bare)) ∧ w' = w) := by
  obtain ⟨a, c, hb, hs⟩ := h.blk
  refine fn_of_wc Tryz.func67 rfl Tryz.ntmps67 (Nat.le_of_ble_eq_true rfl) (by kernel_rfl) ?_
  repeat' first | refine nx ?_ | refine C_cond_t rfl ?_ | refine C_cond_f rfl ?_ | refine Q_block_on rfl ?_
  (refine C_region ?_
   <;> (refine M_assign ?_; (first | refine M_bool rfl ?_ | refine W_move ?_))
   <;> refine W_nil ?_)
  repeat' first | refine nx ?_ | refine C_cond_t rfl ?_ | refine C_cond_f rfl ?_ | refine Q_block_on rfl ?_
  cases ts with
  | nil =>
    have hl : ([] : List Tok).length = 0 := rfl
    (refine C_region ?_
     <;> (first | refine M_ptr rfl ?_ | refine W_move ?_)
     <;> refine W_nilCheck rfl ?_
     <;> refine W_fieldAddr rfl ?_
     <;> (first | refine W_load rfl (Blk.cell (by assumption) (by rfl)) ?_ | refine W_load rfl (by assumption) ?_)
     <;> refine W_len rfl ?_
     <;> (refine W_gtr rfl rfl (fun hc => ?_) (fun hc => ?_) <;> try (exfalso; omega))
     <;> (first | refine M_bool rfl ?_ | refine W_move ?_)
     <;> (first | refine W_no rfl ?_ | (refine W_yes rfl ?_; (first | refine M_ptr rfl ?_ | refine W_move ?_)))
     <;> (first | refine W_no rfl ?_ | (refine W_yes rfl ?_; refine W_nilCheck rfl ?_))
     <;> (first | refine W_no rfl ?_ | (refine W_yes rfl ?_; refine W_fieldAddr rfl ?_))
     <;> (first | refine W_no rfl ?_ | (refine W_yes rfl ?_; (first | refine W_load rfl (Blk.cell (by assumption) (by rfl)) ?_ | refine W_load rfl (by assumption) ?_)))
     <;> (first | refine W_no rfl ?_ | (refine W_yes rfl ?_; (first | refine W_idx1 rfl rfl rfl (by omega) ?_ | refine W_idx rfl rfl rfl (by omega) ?_ | refine W_indexAddr rfl rfl (by omega) (by omega) ?_)))
     <;> (first | refine W_no rfl ?_ | (refine W_yes rfl ?_; refine W_fieldAddr rfl ?_))
     <;> (first | refine W_no rfl ?_ | (refine W_yes rfl ?_; (first | refine W_load rfl (Blk.cell (by assumption) (by rfl)) ?_ | refine W_load rfl (by assumption) ?_)))
     <;> (first | refine W_no rfl ?_ | (refine W_yes rfl ?_; (refine W_neq rfl rfl (fun hc => ?_) (fun hc => ?_) <;> try (exfalso; omega))))
     <;> ((first | refine M_pick_t rfl ?_ | refine M_pick_f rfl ?_); (first | refine M_bool rfl ?_ | refine W_move ?_))
     <;> (first | refine M_bool rfl ?_ | refine W_move ?_)
     <;> (first | refine W_no rfl ?_ | (refine W_yes rfl ?_; (first | refine M_ptr rfl ?_ | refine W_move ?_)))
     <;> (first | refine W_no rfl ?_ | (refine W_yes rfl ?_; refine W_nilCheck rfl ?_))
     <;> (first | refine W_no rfl ?_ | (refine W_yes rfl ?_; refine W_fieldAddr rfl ?_))
     <;> (first | refine W_no rfl ?_ | (refine W_yes rfl ?_; (first | refine W_load rfl (Blk.cell (by assumption) (by rfl)) ?_ | refine W_load rfl (by assumption) ?_)))
     <;> (first | refine W_no rfl ?_ | (refine W_yes rfl ?_; (first | refine W_idx1 rfl rfl rfl (by omega) ?_ | refine W_idx rfl rfl rfl (by omega) ?_ | refine W_indexAddr rfl rfl (by omega) (by omega) ?_)))
     <;> (first | refine W_no rfl ?_ | (refine W_yes rfl ?_; refine W_fieldAddr rfl ?_))
     <;> (first | refine W_no rfl ?_ | (refine W_yes rfl ?_; (first | refine W_load rfl (Blk.cell (by assumption) (by rfl)) ?_ | refine W_load rfl (by assumption) ?_)))
     <;> (first | refine W_no rfl ?_ | (refine W_yes rfl ?_; (first | refine M_str rfl ?_ | refine W_move ?_)))
     <;> (first | refine W_no rfl ?_ | (refine W_yes rfl ?_; refine W_seql rfl rfl (fun hc => ?_) (fun hc => ?_)))
     <;> ((first | refine M_pick_t rfl ?_ | refine M_pick_f rfl ?_); (first | refine M_bool rfl ?_ | refine W_move ?_))
     <;> (refine M_assign ?_; (first | refine M_bool rfl ?_ | refine W_move ?_))
     <;> refine W_nil ?_)
    repeat' first | refine nx ?_ | refine C_cond_t rfl ?_ | refine C_cond_f rfl ?_ | refine Q_block_on rfl ?_
    exact fin_ret1 rfl ⟨rfl, rfl⟩
  | cons x l =>
    have hl : (x :: l).length = l.length + 1 := rfl
    obtain ⟨b, o, rfl, _, ⟨hc0, hc1, hc2⟩, _⟩ := PSt.tok hs
    by_cases hk : x.kind = 2
    · (refine C_region ?_
       <;> (first | refine M_ptr rfl ?_ | refine W_move ?_)
       <;> refine W_nilCheck rfl ?_
       <;> refine W_fieldAddr rfl ?_
       <;> (first | refine W_load rfl (Blk.cell (by assumption) (by rfl)) ?_ | refine W_load rfl (by assumption) ?_)
       <;> refine W_len rfl ?_
       <;> (refine W_gtr rfl rfl (fun hc => ?_) (fun hc => ?_) <;> try (exfalso; omega))
       <;> (first | refine M_bool rfl ?_ | refine W_move ?_)
       <;> (first | refine W_no rfl ?_ | (refine W_yes rfl ?_; (first | refine M_ptr rfl ?_ | refine W_move ?_)))
       <;> (first | refine W_no rfl ?_ | (refine W_yes rfl ?_; refine W_nilCheck rfl ?_))
       <;> (first | refine W_no rfl ?_ | (refine W_yes rfl ?_; refine W_fieldAddr rfl ?_))
       <;> (first | refine W_no rfl ?_ | (refine W_yes rfl ?_; (first | refine W_load rfl (Blk.cell (by assumption) (by rfl)) ?_ | refine W_load rfl (by assumption) ?_)))
       <;> (first | refine W_no rfl ?_ | (refine W_yes rfl ?_; (first | refine W_idx1 rfl rfl rfl (by omega) ?_ | refine W_idx rfl rfl rfl (by omega) ?_ | refine W_indexAddr rfl rfl (by omega) (by omega) ?_)))
       <;> (first | refine W_no rfl ?_ | (refine W_yes rfl ?_; refine W_fieldAddr rfl ?_))
       <;> (first | refine W_no rfl ?_ | (refine W_yes rfl ?_; (first | refine W_load rfl (Blk.cell (by assumption) (by rfl)) ?_ | refine W_load rfl (by assumption) ?_)))
       <;> (first | refine W_no rfl ?_ | (refine W_yes rfl ?_; (refine W_neq rfl rfl (fun hc => ?_) (fun hc => ?_) <;> try (exfalso; omega))))
       <;> ((first | refine M_pick_t rfl ?_ | refine M_pick_f rfl ?_); (first | refine M_bool rfl ?_ | refine W_move ?_))
       <;> (first | refine M_bool rfl ?_ | refine W_move ?_)
       <;> (first | refine W_no rfl ?_ | (refine W_yes rfl ?_; (first | refine M_ptr rfl ?_ | refine W_move ?_)))
       <;> (first | refine W_no rfl ?_ | (refine W_yes rfl ?_; refine W_nilCheck rfl ?_))
       <;> (first | refine W_no rfl ?_ | (refine W_yes rfl ?_; refine W_fieldAddr rfl ?_))
       <;> (first | refine W_no rfl ?_ | (refine W_yes rfl ?_; (first | refine W_load rfl (Blk.cell (by assumption) (by rfl)) ?_ | refine W_load rfl (by assumption) ?_)))
       <;> (first | refine W_no rfl ?_ | (refine W_yes rfl ?_; (first | refine W_idx1 rfl rfl rfl (by omega) ?_ | refine W_idx rfl rfl rfl (by omega) ?_ | refine W_indexAddr rfl rfl (by omega) (by omega) ?_)))
       <;> (first | refine W_no rfl ?_ | (refine W_yes rfl ?_; refine W_fieldAddr rfl ?_))
       <;> (first | refine W_no rfl ?_ | (refine W_yes rfl ?_; (first | refine W_load rfl (Blk.cell (by assumption) (by rfl)) ?_ | refine W_load rfl (by assumption) ?_)))
       <;> (first | refine W_no rfl ?_ | (refine W_yes rfl ?_; (first | refine M_str rfl ?_ | refine W_move ?_)))
       <;> (first | refine W_no rfl ?_ | (refine W_yes rfl ?_; refine W_seql rfl rfl (fun hc => ?_) (fun hc => ?_)))
       <;> ((first | refine M_pick_t rfl ?_ | refine M_pick_f rfl ?_); (first | refine M_bool rfl ?_ | refine W_move ?_))
       <;> (refine M_assign ?_; (first | refine M_bool rfl ?_ | refine W_move ?_))
       <;> refine W_nil ?_)
      repeat' first | refine nx ?_ | refine C_cond_t rfl ?_ | refine C_cond_f rfl ?_ | refine Q_block_on rfl ?_
      exact fin_ret1 rfl ⟨by simp [upd, Nat.beq, seesB, bare, hk], rfl⟩
    · (refine C_region ?_
       <;> (first | refine M_ptr rfl ?_ | refine W_move ?_)
       <;> refine W_nilCheck rfl ?_
       <;> refine W_fieldAddr rfl ?_
       <;> (first | refine W_load rfl (Blk.cell (by assumption) (by rfl)) ?_ | refine W_load rfl (by assumption) ?_)
       <;> refine W_len rfl ?_
       <;> (refine W_gtr rfl rfl (fun hc => ?_) (fun hc => ?_) <;> try (exfalso; omega))
       <;> (first | refine M_bool rfl ?_ | refine W_move ?_)
       <;> (first | refine W_no rfl ?_ | (refine W_yes rfl ?_; (first | refine M_ptr rfl ?_ | refine W_move ?_)))
       <;> (first | refine W_no rfl ?_ | (refine W_yes rfl ?_; refine W_nilCheck rfl ?_))
       <;> (first | refine W_no rfl ?_ | (refine W_yes rfl ?_; refine W_fieldAddr rfl ?_))
       <;> (first | refine W_no rfl ?_ | (refine W_yes rfl ?_; (first | refine W_load rfl (Blk.cell (by assumption) (by rfl)) ?_ | refine W_load rfl (by assumption) ?_)))
       <;> (first | refine W_no rfl ?_ | (refine W_yes rfl ?_; (first | refine W_idx1 rfl rfl rfl (by omega) ?_ | refine W_idx rfl rfl rfl (by omega) ?_ | refine W_indexAddr rfl rfl (by omega) (by omega) ?_)))
       <;> (first | refine W_no rfl ?_ | (refine W_yes rfl ?_; refine W_fieldAddr rfl ?_))
       <;> (first | refine W_no rfl ?_ | (refine W_yes rfl ?_; (first | refine W_load rfl (Blk.cell (by assumption) (by rfl)) ?_ | refine W_load rfl (by assumption) ?_)))
       <;> (first | refine W_no rfl ?_ | (refine W_yes rfl ?_; (refine W_neq rfl rfl (fun hc => ?_) (fun hc => ?_) <;> try (exfalso; omega))))
       <;> ((first | refine M_pick_t rfl ?_ | refine M_pick_f rfl ?_); (first | refine M_bool rfl ?_ | refine W_move ?_))
       <;> (first | refine M_bool rfl ?_ | refine W_move ?_)
       <;> (first | refine W_no rfl ?_ | (refine W_yes rfl ?_; (first | refine M_ptr rfl ?_ | refine W_move ?_)))
       <;> (first | refine W_no rfl ?_ | (refine W_yes rfl ?_; refine W_nilCheck rfl ?_))
       <;> (first | refine W_no rfl ?_ | (refine W_yes rfl ?_; refine W_fieldAddr rfl ?_))
       <;> (first | refine W_no rfl ?_ | (refine W_yes rfl ?_; (first | refine W_load rfl (Blk.cell (by assumption) (by rfl)) ?_ | refine W_load rfl (by assumption) ?_)))
       <;> (first | refine W_no rfl ?_ | (refine W_yes rfl ?_; (first | refine W_idx1 rfl rfl rfl (by omega) ?_ | refine W_idx rfl rfl rfl (by omega) ?_ | refine W_indexAddr rfl rfl (by omega) (by omega) ?_)))
       <;> (first | refine W_no rfl ?_ | (refine W_yes rfl ?_; refine W_fieldAddr rfl ?_))
       <;> (first | refine W_no rfl ?_ | (refine W_yes rfl ?_; (first | refine W_load rfl (Blk.cell (by assumption) (by rfl)) ?_ | refine W_load rfl (by assumption) ?_)))
       <;> (first | refine W_no rfl ?_ | (refine W_yes rfl ?_; (first | refine M_str rfl ?_ | refine W_move ?_)))
       <;> (first | refine W_no rfl ?_ | (refine W_yes rfl ?_; refine W_seql rfl rfl (fun hc => ?_) (fun hc => ?_)))
       <;> ((first | refine M_pick_t rfl ?_ | refine M_pick_f rfl ?_); (first | refine M_bool rfl ?_ | refine W_move ?_))
       <;> (refine M_assign ?_; (first | refine M_bool rfl ?_ | refine W_move ?_))
       <;> refine W_nil ?_)
      · repeat' first | refine nx ?_ | refine C_cond_t rfl ?_ | refine C_cond_f rfl ?_ | refine Q_block_on rfl ?_
        exact fin_ret1 rfl ⟨by simp_all [upd, Nat.beq, seesB, bare], rfl⟩
      · repeat' first | refine nx ?_ | refine C_cond_t rfl ?_ | refine C_cond_f rfl ?_ | refine Q_block_on rfl ?_
        exact fin_ret1 rfl ⟨by simp_all [upd, Nat.beq, seesB, bare], rfl⟩
end Go.Proofs.YtmnhnbpnjepkbaaGreatDoor
