/- The lexer's plain law: a text behind another one. Conditions: none. -/
import Derived.Test.YteonolnfgppagaaDoorXQ2
namespace Go.Proofs.YteonolnfgppagaaDoor
set_option linter.unusedVariables false

def shT (m : Nat) (x : Tok) : Tok := ⟨x.kind, x.text, x.loc + m⟩

theorem drop_sh (v u : List UInt8) (a : Nat) : (v ++ u).drop (v.length + a) = u.drop a := by
  rw [List.drop_append]; simp
theorem whileB_sh {q : UInt8 → Bool} (v u : List UInt8) (a : Nat) : whileB q (v ++ u) (v.length + a) = v.length + whileB q u a := by
  unfold whileB; rw [drop_sh]; omega
theorem take_sh (v u : List UInt8) (a n : Nat) : ((v ++ u).take (v.length + n)).drop (v.length + a) = (u.take n).drop a := by
  rw [List.take_append]
  rw [List.take_of_length_le (by omega), show v.length + n - v.length = n by omega, drop_sh]
theorem getD_sh (v u : List UInt8) (a : Nat) : (v ++ u).getD (v.length + a) 0 = u.getD a 0 := by
  simp [List.getD_eq_getElem?_getD, List.getElem?_append_right]
theorem addM_sh {v u : List UInt8} {a n a1 : Nat} {ts ts' ts1 : List Tok} {k : Int} (h : addM u a ts' k n = .ok (a1, ts1)) (hc : ts.length + ts1.length ≤ 2000) :
    addM (v ++ u) (v.length + a) (ts ++ ts'.map (shT v.length)) k (v.length + n) = .ok (v.length + a1, ts ++ ts1.map (shT v.length)) := by
  have e := addM_ok h
  obtain ⟨e1, e2⟩ := addM_le h
  subst e
  subst e1
  unfold addM
  rw [if_neg (by simp at hc ⊢; omega), take_sh]
  simp [shT, Nat.add_comm]
theorem numBad_sh (v u : List UInt8) (a : Nat) : numBad (v ++ u) (v.length + a) = numBad u a := by
  unfold numBad
  rw [whileB_sh, getD_sh, getD_sh]
  rw [show v.length + whileB isDig u a - (v.length + a) = whileB isDig u a - a by omega]
  have e : decide (v.length + whileB isDig u a < (v ++ u).length) = decide (whileB isDig u a < u.length) := by simp
  rw [e]
theorem step_sh {v u : List UInt8} {a a1 : Nat} {ts ts' ts1 : List Tok} (h : stepM u a ts' = .ok (a1, ts1)) (hc : ts.length + ts1.length ≤ 2000) :
    stepM (v ++ u) (v.length + a) (ts ++ ts'.map (shT v.length)) = .ok (v.length + a1, ts ++ ts1.map (shT v.length)) := by
  unfold stepM at h ⊢
  rw [getD_sh]
  split at h
  · cases h; simp [blankM]; omega
  · cases h; simp [commM, whileB_sh]
  · unfold nameM at h ⊢
    split at h
    · cases h
    · rw [show v.length + a + 1 = v.length + (a + 1) by omega, whileB_sh, if_neg (by omega)]
      exact addM_sh h hc
  · unfold numM at h ⊢
    split at h
    · cases h
    · rw [numBad_sh, if_neg (by assumption), whileB_sh]
      exact addM_sh h hc
  · unfold symM at h ⊢
    rw [drop_sh]
    split at h
    · rename_i y hy
      rw [show v.length + a + y.length = v.length + (a + y.length) by omega]
      exact addM_sh h hc
    · cases h
  · cases h
theorem Reach1.shift {u : List UInt8} {a b : Nat} {ts' tsb : List Tok} (v : List UInt8) (ts : List Tok) (h : Reach1 u a ts' b tsb) (hc : ts.length + tsb.length ≤ 2000) :
    Reach1 (v ++ u) (v.length + a) (ts ++ ts'.map (shT v.length)) (v.length + b) (ts ++ tsb.map (shT v.length)) := by
  induction h with
  | refl => exact .refl _ _
  | step h hs hr ih =>
    have := hr.pre.length_le
    exact .step (by simp; omega) (step_sh hs (by omega)) (ih hc)
theorem Reach1.app {t : List UInt8} {a b : Nat} {ts tsb : List Tok} (u : List UInt8) (h : Reach1 t a ts b tsb) : Reach1 (t ++ 10 :: u) a ts b tsb := by
  induction h with
  | refl => exact .refl _ _
  | step h hs hr ih => exact .step (by simp; omega) (by rw [step_app t u _ _ h]; exact hs) ih
theorem Reach1.trans {t : List UInt8} {a b c : Nat} {ts tsb tsc : List Tok} (h : Reach1 t a ts b tsb) (h' : Reach1 t b tsb c tsc) : Reach1 t a ts c tsc := by
  induction h with
  | refl => exact h'
  | step h hs hr ih => exact .step h hs (ih h')

theorem concat_law {s t : List UInt8} {A B : List Tok} (hs : s.length ≤ 2000) (ht : t.length ≤ 2000) (hA : lexM s = .ok A) (hB : lexM t = .ok B) (hc : A.length + B.length ≤ 2000) :
    lexM (s ++ 10 :: t) = .ok (A ++ B.map (shT (s.length + 1))) := by
  refine lexM_reach (t := s ++ 10 :: t) (by simp; omega) ?_
  have h1 := (lexM_ok hA).2.app t
  have h2 : Reach1 (s ++ 10 :: t) s.length A (s.length + 1) A := by
    refine .step (by simp) ?_ (.refl _ _)
    unfold stepM
    have e : (s ++ 10 :: t).getD s.length 0 = 10 := by simp [List.getD_eq_getElem?_getD]
    rw [e]
    rfl
  have h3 := (lexM_ok hB).2.shift (s ++ [10]) A hc
  simp only [List.length_append, List.length_cons, List.length_nil, List.map_nil, List.append_nil, List.append_assoc, List.cons_append, List.nil_append, Nat.add_zero, Nat.zero_add] at h3
  have e : (s ++ 10 :: t).length = s.length + 1 + t.length := by simp; omega
  rw [e]
  exact (h1.trans h2).trans h3
end Go.Proofs.YteonolnfgppagaaDoor
