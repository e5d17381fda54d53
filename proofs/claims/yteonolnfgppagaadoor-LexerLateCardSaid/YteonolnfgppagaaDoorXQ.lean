/- The lexer's plain law: the scan without fuel, texts that go on after a line feed. Conditions: none. -/
import Derived.Test.YteonolnfgppagaaDoorX9
namespace Go.Proofs.YteonolnfgppagaaDoor
set_option linter.unusedVariables false

theorem addM_le {t : List UInt8} {a n a' : Nat} {ts ts' : List Tok} {k : Int} (h : addM t a ts k n = .ok (a', ts')) : ts' = ts ++ [⟨k, (t.take n).drop a, a⟩] ∧ ts.length ≠ 2000 := by
  unfold addM at h
  split at h
  · cases h
  · cases h; exact ⟨rfl, by assumption⟩
theorem step_le {t : List UInt8} {a a' : Nat} {ts ts' : List Tok} (hl : a < t.length) (h : stepM t a ts = .ok (a', ts')) : a' ≤ t.length := by
  unfold stepM at h
  split at h
  · cases h; omega
  · cases h; exact whileB_le (by omega)
  · unfold nameM at h
    split at h
    · cases h
    · have := addM_ok h; have := whileB_le (p := inName) (t := t) (a := a + 1) (by omega); omega
  · unfold numM at h
    split at h
    · cases h
    · have := addM_ok h; have := whileB_le (p := isDig) (t := t) (a := a) (by omega); omega
  · unfold symM at h
    split at h
    · rename_i y hy
      have h2 := List.find?_some hy
      have := addM_ok h
      have := ((hasPre_iff _ _).1 h2).length_le
      simp at this; omega
    · cases h
  · cases h

theorem scanF_fuel (t : List UInt8) : ∀ (n m a : Nat) (ts : List Tok), a ≤ t.length → t.length < n + a → t.length < m + a → scanF t n a ts = scanF t m a ts
  | 0, _, _, _, h, h1, _ => by omega
  | _, 0, _, _, h, _, h2 => by omega
  | n + 1, m + 1, a, ts, h, h1, h2 => by
    unfold scanF
    split
    · cases hs : stepM t a ts with
      | ok r =>
        have e1 := step_on (by assumption) hs
        have e2 := step_le (by assumption) hs
        exact scanF_fuel t n m r.1 r.2 e2 (by omega) (by omega)
      | error e => rfl
    · rfl
def scanW (t : List UInt8) (a : Nat) (ts : List Tok) : Res := scanF t (t.length + 1 - a) a ts
theorem scanW_end {t : List UInt8} {ts : List Tok} : scanW t t.length ts = .ok (t.length, ts) := by
  unfold scanW
  rw [show t.length + 1 - t.length = 0 + 1 by omega]
  unfold scanF
  rw [if_neg (by omega)]
theorem scanW_step {t : List UInt8} {a : Nat} {ts : List Tok} (h : a < t.length) : scanW t a ts = match stepM t a ts with | .ok r => scanW t r.1 r.2 | .error e => .error e := by
  unfold scanW
  rw [show t.length + 1 - a = (t.length - a) + 1 by omega]
  conv => lhs; unfold scanF
  rw [if_pos h]
  cases hs : stepM t a ts with
  | ok r =>
    have e1 := step_on h hs
    have e2 := step_le h hs
    exact scanF_fuel t _ _ r.1 r.2 e2 (by omega) (by omega)
  | error e => rfl
theorem scanR_eq (t : List UInt8) : scanR t = scanW t 0 [] := rfl

/-! ### A text that goes on after a line feed -/
theorem whileB_app {p : UInt8 → Bool} (hp : p 10 = false) (t u : List UInt8) (a : Nat) (h : a ≤ t.length) : whileB p (t ++ 10 :: u) a = whileB p t a := by
  unfold whileB
  rw [List.drop_append_of_le_length h]
  congr 2
  generalize t.drop a = l
  induction l with
  | nil => simp [hp]
  | cons x l ih =>
    rw [List.cons_append, List.takeWhile_cons, List.takeWhile_cons]
    cases p x <;> simp [ih]
theorem take_app {t u : List UInt8} {n a : Nat} (h : n ≤ t.length) : ((t ++ u).take n).drop a = (t.take n).drop a := by
  rw [List.take_append_of_le_length h]
theorem addM_app (t u : List UInt8) (a n : Nat) (ts : List Tok) (k : Int) (h : n ≤ t.length) : addM (t ++ u) a ts k n = addM t a ts k n := by
  unfold addM; rw [take_app h]
theorem hasPre_app {t u y : List UInt8} (hy : (10 : UInt8) ∉ y) : hasPre (t ++ 10 :: u) y = hasPre t y := by
  rw [Bool.eq_iff_iff, hasPre_iff, hasPre_iff]
  constructor
  · intro h
    by_cases hl : y.length ≤ t.length
    · exact List.prefix_of_prefix_length_le h (List.prefix_append _ _) hl
    · exfalso
      have h1 : t ++ [10] <+: t ++ 10 :: u := ⟨u, by simp⟩
      have h2 : t ++ [10] <+: y := List.prefix_of_prefix_length_le h1 h (by simp; omega)
      exact hy (h2.subset (by simp))
  · intro h; exact h.trans (List.prefix_append _ _)
theorem getD_app {t u : List UInt8} {a : Nat} (h : a < t.length) : (t ++ u).getD a 0 = t.getD a 0 := by
  simp [List.getD_eq_getElem?_getD, List.getElem?_append_left h]
theorem step_app (t u : List UInt8) (a : Nat) (ts : List Tok) (h : a < t.length) : stepM (t ++ 10 :: u) a ts = stepM t a ts := by
  unfold stepM
  rw [getD_app h]
  cases kindB (t.getD a 0) with
  | none => rfl
  | some k =>
    match k with
    | 0 => rfl
    | 1 => simp only [commM]; rw [whileB_app (by decide) t u a (by omega)]
    | 2 =>
      simp only [nameM]
      rw [whileB_app (by decide) t u (a + 1) (by omega), addM_app _ _ _ _ _ _ (whileB_le (by omega))]
    | 3 =>
      have hle := whileB_le (p := isDig) (t := t) (a := a) (by omega)
      have hb : numBad (t ++ 10 :: u) a = numBad t a := by
        unfold numBad
        rw [whileB_app (by decide) t u a (by omega), getD_app h]
        congr 1
        by_cases hn : whileB isDig t a < t.length
        · rw [getD_app hn]; simp [hn]; intro _; omega
        · have e : whileB isDig t a = t.length := by omega
          rw [e]
          have : (t ++ 10 :: u).getD t.length 0 = 10 := by simp [List.getD_eq_getElem?_getD]
          rw [this]
          simp; decide
      simp only [numM]
      rw [hb, whileB_app (by decide) t u a (by omega), addM_app _ _ _ _ _ _ hle]
    | k + 4 =>
      simp only [symM]
      have hf : symsL.find? (hasPre ((t ++ 10 :: u).drop a)) = symsL.find? (hasPre (t.drop a)) := by
        have hn : ∀ y ∈ symsL, (10 : UInt8) ∉ y := by decide
        rw [List.drop_append_of_le_length (by omega)]
        generalize symsL = l at hn
        induction l with
        | nil => rfl
        | cons y l ih =>
          rw [List.find?_cons, List.find?_cons, hasPre_app (hn y (by simp)), ih fun z hz => hn z (by simp [hz])]
      rw [hf]
      split
      · rename_i y hy
        have := ((hasPre_iff _ _).1 (List.find?_some hy)).length_le
        simp at this
        rw [addM_app _ _ _ _ _ _ (by omega)]
      · rfl

theorem scanW_app (t u : List UInt8) : ∀ (m a : Nat) (ts : List Tok), t.length - a ≤ m → a ≤ t.length →
    scanW (t ++ 10 :: u) a ts = match scanW t a ts with | .ok r => scanW (t ++ 10 :: u) t.length r.2 | .error e => .error e := by
  intro m
  induction m with
  | zero =>
    intro a ts hm ha
    obtain rfl : a = t.length := by omega
    rw [scanW_end]
  | succ m ih =>
    intro a ts hm ha
    by_cases h : a < t.length
    · rw [scanW_step (t := t ++ 10 :: u) (by simp; omega), scanW_step h, step_app t u a ts h]
      cases hs : stepM t a ts with
      | ok r =>
        have e1 := step_on h hs
        have e2 := step_le h hs
        exact ih r.1 r.2 (by omega) e2
      | error e => rfl
    · obtain rfl : a = t.length := by omega
      rw [scanW_end]

theorem lexM_of {t : List UInt8} (h : t.length ≤ 6000) : lexM t = match scanW t 0 [] with | .ok r => .ok r.2 | .error e => .error e := by
  unfold lexM; rw [if_neg (by omega), scanR_eq]; cases scanW t 0 [] <;> rfl
theorem late_law {t u : List UInt8} {e : Int × Nat} (ht : t.length ≤ 1500) (hu : u.length ≤ 1500) (h : lexM t = .error e) : lexM (t ++ 10 :: u) = .error e := by
  rw [lexM_of (by simp; omega), scanW_app t u t.length 0 [] (by omega) (by omega)]
  rw [lexM_of (by omega)] at h
  cases hs : scanW t 0 [] with
  | ok r => rw [hs] at h; cases h
  | error e' => rw [hs] at h; exact h
end Go.Proofs.YteonolnfgppagaaDoor
