/- The lexer's plain law: steps of a scan, the beginning of a text. Conditions: none. -/
import Derived.Test.YteonolnfgppagaaDoorXQ
namespace Go.Proofs.YteonolnfgppagaaDoor
set_option linter.unusedVariables false

inductive Reach1 (t : List UInt8) : Nat → List Tok → Nat → List Tok → Prop
  | refl (a : Nat) (ts : List Tok) : Reach1 t a ts a ts
  | step {a a1 b : Nat} {ts ts1 tsb : List Tok} (h : a < t.length) (hs : stepM t a ts = .ok (a1, ts1)) (hr : Reach1 t a1 ts1 b tsb) : Reach1 t a ts b tsb

theorem Reach1.le {t : List UInt8} {a b : Nat} {ts tsb : List Tok} (h : Reach1 t a ts b tsb) : a ≤ b := by
  induction h with
  | refl => omega
  | step h hs _ ih => have := step_on h hs; omega

theorem step_shape {t : List UInt8} {a a1 : Nat} {ts ts1 : List Tok} (h : stepM t a ts = .ok (a1, ts1)) : ts1 = ts ∨ ∃ k, ts1 = ts ++ [⟨k, (t.take a1).drop a, a⟩] := by
  unfold stepM at h
  split at h
  · cases h; exact .inl rfl
  · cases h; exact .inl rfl
  · unfold nameM at h
    split at h
    · cases h
    · have e := addM_ok h; subst e; exact .inr ⟨_, (addM_le h).1⟩
  · unfold numM at h
    split at h
    · cases h
    · have e := addM_ok h; subst e; exact .inr ⟨_, (addM_le h).1⟩
  · unfold symM at h
    split at h
    · have e := addM_ok h; subst e; exact .inr ⟨_, (addM_le h).1⟩
    · cases h
  · cases h
theorem Reach1.pre {t : List UInt8} {a b : Nat} {ts tsb : List Tok} (h : Reach1 t a ts b tsb) : ts <+: tsb := by
  induction h with
  | refl => exact List.prefix_rfl
  | step h hs _ ih =>
    rcases step_shape hs with rfl | ⟨k, rfl⟩
    · exact ih
    · exact (List.prefix_append _ _).trans ih

theorem reach_of_scan {t : List UInt8} : ∀ (m a : Nat) (ts : List Tok), t.length - a ≤ m → a ≤ t.length →
    (∃ tsb, scanW t a ts = .ok (t.length, tsb) ∧ Reach1 t a ts t.length tsb) ∨ ∃ e p tsp, scanW t a ts = .error (e, p) ∧ Reach1 t a ts p tsp ∧ p < t.length ∧ stepM t p tsp = .error (e, p) := by
  intro m
  induction m with
  | zero =>
    intro a ts hm ha
    obtain rfl : a = t.length := by omega
    exact .inl ⟨ts, scanW_end, .refl _ _⟩
  | succ m ih =>
    intro a ts hm ha
    by_cases h : a < t.length
    · rw [scanW_step h]
      cases hs : stepM t a ts with
      | ok r =>
        have e1 := step_on h hs
        have e2 := step_le h hs
        rcases ih r.1 r.2 (by omega) e2 with ⟨tsb, h1, h2⟩ | ⟨e, p, tsp, h1, h2, h3, h4⟩
        · exact .inl ⟨tsb, h1, .step h hs h2⟩
        · exact .inr ⟨e, p, tsp, h1, .step h hs h2, h3, h4⟩
      | error r =>
        obtain ⟨e, p⟩ := r
        obtain ⟨rfl, _⟩ := stepM_err hs
        exact .inr ⟨e, p, ts, rfl, .refl _ _, h, hs⟩
    · obtain rfl : a = t.length := by omega
      exact .inl ⟨ts, scanW_end, .refl _ _⟩
theorem scan_of_reach {t : List UInt8} {a b : Nat} {ts tsb : List Tok} (h : Reach1 t a ts b tsb) : scanW t a ts = scanW t b tsb := by
  induction h with
  | refl => rfl
  | step h hs _ ih => rw [scanW_step h, hs]; exact ih

/-! ### The beginning of a text -/
theorem takeWhile_take {q : UInt8 → Bool} : ∀ (l : List UInt8) (m : Nat), (l.takeWhile q).length ≤ m → ((l.take m).takeWhile q).length = (l.takeWhile q).length
  | [], m, _ => by simp
  | x :: l, 0, h => by simp at h ⊢; cases hq : q x <;> simp_all
  | x :: l, m + 1, h => by
    rw [List.take_succ_cons, List.takeWhile_cons, List.takeWhile_cons] at *
    cases hq : q x with
    | false => simp
    | true => simp [hq] at h ⊢; exact takeWhile_take l m h
theorem whileB_take {q : UInt8 → Bool} {t : List UInt8} {a p : Nat} (h : whileB q t a ≤ p) : whileB q (t.take p) a = whileB q t a := by
  unfold whileB at *
  rw [List.drop_take, takeWhile_take _ _ (by omega)]
theorem addM_take {t : List UInt8} {a n p : Nat} {ts : List Tok} {k : Int} (h : n ≤ p) : addM (t.take p) a ts k n = addM t a ts k n := by
  unfold addM; rw [List.take_take, Nat.min_eq_left h]
theorem getD_take {t : List UInt8} {a p : Nat} (h : a < p) : (t.take p).getD a 0 = t.getD a 0 := by
  simp [List.getD_eq_getElem?_getD, h]
theorem find_same {α : Type} {f g : α → Bool} {l : List α} {y : α} (h : l.find? f = some y) (hy : g y = true) (hg : ∀ z, g z = true → f z = true) : l.find? g = some y := by
  induction l with
  | nil => cases h
  | cons x l ih =>
    rw [List.find?_cons] at h ⊢
    cases hx : f x with
    | true => rw [hx] at h; cases h; rw [hy]
    | false =>
      rw [hx] at h
      have : g x = false := by cases hgx : g x with | false => rfl | true => rw [hg x hgx] at hx; cases hx
      rw [this]; exact ih h
theorem numBad_take {t : List UInt8} {a p : Nat} (hp : p ≤ t.length) (ha : a < p) (hn : whileB isDig t a ≤ p) (h : numBad t a = false) : numBad (t.take p) a = false := by
  unfold numBad at *
  rw [whileB_take hn, getD_take ha]
  rw [Bool.or_eq_false_iff] at h ⊢
  refine ⟨h.1, ?_⟩
  by_cases hlt : whileB isDig t a < p
  · rw [getD_take hlt]
    have h2 := h.2
    rw [decide_eq_true (show whileB isDig t a < t.length by omega)] at h2
    rw [Bool.true_and] at h2
    rw [h2]; simp
  · rw [decide_eq_false (by simp; omega)]; rfl
theorem step_take {t : List UInt8} {a a1 p : Nat} {ts ts1 : List Tok} (hp : p ≤ t.length) (hl : a < t.length) (hs : stepM t a ts = .ok (a1, ts1)) (h1 : a1 ≤ p) : stepM (t.take p) a ts = .ok (a1, ts1) := by
  have hon := step_on hl hs
  have hap : a < p := by omega
  unfold stepM at hs ⊢
  rw [getD_take hap]
  split at hs
  · exact hs
  · cases hs
    simp only [commM]
    rw [whileB_take h1]
  · unfold nameM at hs ⊢
    split at hs
    · cases hs
    · have e := addM_ok hs
      subst e
      rw [whileB_take h1, if_neg (by assumption), addM_take h1]; exact hs
  · unfold numM at hs ⊢
    split at hs
    · cases hs
    · rename_i hb
      have e := addM_ok hs
      subst e
      rw [whileB_take h1, if_neg (by rw [numBad_take hp hap h1 (by simpa using hb)]; simp), addM_take h1]; exact hs
  · unfold symM at hs ⊢
    split at hs
    · rename_i y hy
      have e := addM_ok hs
      have hpy := (hasPre_iff _ _).1 (List.find?_some hy)
      have hf : symsL.find? (hasPre ((t.take p).drop a)) = some y := by
        refine find_same hy ((hasPre_iff _ _).2 ?_) fun z hz => (hasPre_iff _ _).2 ?_
        · rw [List.drop_take]
          exact List.prefix_of_prefix_length_le hpy (List.take_prefix _ _) (by have := hpy.length_le; simp at this ⊢; omega) |> fun h => h
        · have := (hasPre_iff _ _).1 hz
          rw [List.drop_take] at this
          exact this.trans (List.take_prefix _ _)
      rw [hf]
      simp only
      rw [addM_take (by omega)]; exact hs
    · cases hs
  · cases hs
theorem Reach1.take {t : List UInt8} {a b p : Nat} {ts tsb : List Tok} (h : Reach1 t a ts b tsb) (hb : b ≤ p) (hp : p ≤ t.length) : Reach1 (t.take p) a ts b tsb := by
  induction h with
  | refl => exact .refl _ _
  | step h hs hr ih =>
    have := hr.le
    have h2 := step_on h hs
    exact .step (by simp; omega) (step_take hp h hs (by omega)) (ih hb)

/-- where the scan is after token k -/
theorem Reach1.tok {t : List UInt8} {a b : Nat} {ts tsb : List Tok} (h : Reach1 t a ts b tsb) (k : Nat) (hk : ts.length ≤ k) (hk2 : k < tsb.length) :
    ∃ x, tsb[k]? = some x ∧ Reach1 t a ts (x.loc + x.text.length) (tsb.take (k + 1)) ∧ x.loc + x.text.length ≤ b := by
  induction h with
  | refl => omega
  | step h hs hr ih =>
    rename_i a a1 b ts ts1 tsb
    have h1 := step_le h hs
    have h0 := step_on h hs
    rcases step_shape hs with rfl | ⟨kd, rfl⟩
    · obtain ⟨x, h1, h2, h3⟩ := ih hk hk2
      exact ⟨x, h1, .step h hs h2, h3⟩
    · by_cases hkk : k = ts.length
      · subst hkk
        obtain ⟨r, hr'⟩ := hr.pre
        have hlen : a + ((t.take a1).drop a).length = a1 := by simp; omega
        refine ⟨⟨kd, (t.take a1).drop a, a⟩, by rw [← hr']; simp, ?_, by rw [hlen]; exact hr.le⟩
        rw [hlen]
        have ht : tsb.take (ts.length + 1) = ts ++ [⟨kd, (t.take a1).drop a, a⟩] := by
          rw [← hr']
          exact List.take_left' (by simp)
        rw [ht]
        exact .step h hs (.refl _ _)
      · obtain ⟨x, h1, h2, h3⟩ := ih (by simp; omega) hk2
        exact ⟨x, h1, .step h hs h2, h3⟩

theorem lexM_ok {t : List UInt8} {ts : List Tok} (h : lexM t = .ok ts) : t.length ≤ 6000 ∧ Reach1 t 0 [] t.length ts := by
  have hl : t.length ≤ 6000 := by
    unfold lexM at h
    split at h
    · cases h
    · omega
  refine ⟨hl, ?_⟩
  rw [lexM_of hl] at h
  rcases reach_of_scan (t := t) t.length 0 [] (by omega) (by omega) with ⟨tsb, h1, h2⟩ | ⟨e, p, tsp, h1, _⟩
  · rw [h1] at h; cases h; exact h2
  · rw [h1] at h; cases h
theorem lexM_reach {t : List UInt8} {ts : List Tok} (hl : t.length ≤ 6000) (h : Reach1 t 0 [] t.length ts) : lexM t = .ok ts := by
  rw [lexM_of hl, scan_of_reach h, scanW_end]
theorem err_before {t : List UInt8} {e : Int} {p : Nat} (hl : t.length ≤ 6000) (h : lexM t = .error (e, p)) : p < t.length ∧ ∃ ts, lexM (t.take p) = .ok ts := by
  rw [lexM_of hl] at h
  rcases reach_of_scan (t := t) t.length 0 [] (by omega) (by omega) with ⟨tsb, h1, _⟩ | ⟨e', p', tsp, h1, h2, h3, _⟩
  · rw [h1] at h; cases h
  · rw [h1] at h
    cases h
    refine ⟨h3, tsp, lexM_reach (t := t.take p) (by simp; omega) ?_⟩
    have := h2.take (p := p) (Nat.le_refl _) (by omega)
    have e : (t.take p).length = p := by simp; omega
    rw [e]; exact this
theorem ok_upto {t : List UInt8} {ts : List Tok} {k : Nat} (h : lexM t = .ok ts) (hk : k < ts.length) : ∃ x, ts[k]? = some x ∧ x.loc + x.text.length ≤ t.length ∧ lexM (t.take (x.loc + x.text.length)) = .ok (ts.take (k + 1)) := by
  obtain ⟨hl, hr⟩ := lexM_ok h
  obtain ⟨x, h1, h2, h3⟩ := hr.tok k (by simp) hk
  refine ⟨x, h1, h3, lexM_reach (t := t.take (x.loc + x.text.length)) (by simp; omega) ?_⟩
  have e : (t.take (x.loc + x.text.length)).length = x.loc + x.text.length := by simp; omega
  rw [e]
  exact h2.take (Nat.le_refl _) h3
end Go.Proofs.YteonolnfgppagaaDoor
