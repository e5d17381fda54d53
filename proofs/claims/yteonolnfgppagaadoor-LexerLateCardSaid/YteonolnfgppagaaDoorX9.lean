/- The lexer: tokens read, the fixed examples. Conditions: none. -/
import Derived.Test.YteonolnfgppagaaDoorX8
namespace Go.Proofs.YteonolnfgppagaaDoor
open Go.RowKit
set_option linter.unusedVariables false

/-- a slice that reads as these tokens -/
def Toks (w : World) (a : Option Addr) (c : Nat) (ts : List Tok) : Prop := Sl anyB w (.slice a ts.length c) ts.length (toksC ts)
theorem Toks.ext {w w' : World} {a : Option Addr} {c : Nat} {ts : List Tok} (h : Toks w a c ts) (k : Ext w w') : Toks w' a c ts := Sl.ext h k

theorem toksC_get : ∀ (ts : List Tok) (k j : Nat) (x : Tok) (v : Value), ts[k]? = some x → (tokC x)[j]? = some v → (toksC ts)[k * 3 + j]? = some v
  | [], k, j, x, v, h, _ => by simp at h
  | y :: ts, 0, j, x, v, h, hv => by
    simp at h; subst h
    obtain ⟨hj, _⟩ := List.getElem?_eq_some_iff.1 hv
    have e : toksC (y :: ts) = tokC y ++ toksC ts := by simp [toksC]
    rw [e, Nat.zero_mul, Nat.zero_add, List.getElem?_append_left hj]; exact hv
  | y :: ts, k + 1, j, x, v, h, hv => by
    have e : toksC (y :: ts) = tokC y ++ toksC ts := by simp [toksC]
    have hl : (tokC y).length = 3 := rfl
    rw [e, List.getElem?_append_right (by rw [hl]; omega), hl, show (k + 1) * 3 + j - 3 = k * 3 + j by omega]
    exact toksC_get ts k j x v (by simpa using h) hv

/-- where token k lies -/
theorem Toks.at {w : World} {a : Option Addr} {c k : Nat} {ts : List Tok} {x : Tok} (h : Toks w a c ts) (hx : ts[k]? = some x) :
    ∃ b o, a = some ⟨b, o, none⟩ ∧ Cells w b (o + k * 3) (tokC x) := by
  obtain ⟨a', cap, hv, h1, h2, h3, h4⟩ := h
  cases hv
  have hlt := (List.getElem?_eq_some_iff.1 hx).1
  obtain ⟨b, o, rfl, _, hc⟩ := h4.resolve_left (by omega)
  refine ⟨b, o, rfl, fun j v hv => ?_⟩
  have := hc _ _ (toksC_get ts k j x v hx hv)
  rwa [← Nat.add_assoc] at this

theorem addM_err {t : List UInt8} {a n p : Nat} {ts : List Tok} {k e : Int} (h : addM t a ts k n = .error (e, p)) : e = 2 ∧ p = a ∧ ts.length = 2000 := by
  unfold addM at h
  split at h
  · cases h; exact ⟨rfl, rfl, by assumption⟩
  · cases h
theorem stepM_err {t : List UInt8} {a p : Nat} {ts : List Tok} {e : Int} (h : stepM t a ts = .error (e, p)) : p = a ∧ (e = 40 ∨ e = 2 ∧ ts.length = 2000) := by
  unfold stepM at h
  split at h
  · cases h
  · cases h
  · unfold nameM at h
    split at h
    · cases h; exact ⟨rfl, .inl rfl⟩
    · obtain ⟨h1, h2, h3⟩ := addM_err h; exact ⟨h2, .inr ⟨h1, h3⟩⟩
  · unfold numM at h
    split at h
    · cases h; exact ⟨rfl, .inl rfl⟩
    · obtain ⟨h1, h2, h3⟩ := addM_err h; exact ⟨h2, .inr ⟨h1, h3⟩⟩
  · unfold symM at h
    split at h
    · obtain ⟨h1, h2, h3⟩ := addM_err h; exact ⟨h2, .inr ⟨h1, h3⟩⟩
    · cases h; exact ⟨rfl, .inl rfl⟩
  · cases h; exact ⟨rfl, .inl rfl⟩
theorem scanF_err (t : List UInt8) : ∀ (n a : Nat) (ts : List Tok) (e : Int) (p : Nat), scanF t n a ts = .error (e, p) → e ≠ 0
  | 0, a, ts, e, p, h => by unfold scanF at h; cases h; decide
  | n + 1, a, ts, e, p, h => by
    unfold scanF at h
    split at h
    · cases hs : stepM t a ts with
      | ok r => rw [hs] at h; exact scanF_err t n _ _ e p h
      | error r =>
        rw [hs] at h
        cases h
        rcases (stepM_err hs).2 with rfl | ⟨rfl, _⟩ <;> decide
    · cases h
theorem lexM_err {t : List UInt8} {e : Int} {p : Nat} (h : lexM t = .error (e, p)) : e ≠ 0 := by
  unfold lexM at h
  split at h
  · cases h; decide
  · cases hs : scanR t with
    | ok r => rw [hs] at h; cases h
    | error r => rw [hs] at h; cases h; exact scanF_err t _ _ _ _ _ hs

/-- what Lex answers, read -/
theorem lexC (w : World) (t : List UInt8) (hG : GV w) : Fn Tryd.prog 9 [strV t] w fun v w' => ∃ a c e q ts, v = .tuple #[.slice a ts.length c, .int .i64 e, .int .i64 q] ∧ Ext w w' ∧ Toks w' a c ts ∧
    ((lexM t = .ok ts ∧ e = 0 ∧ q = -1) ∨ ∃ p : Nat, lexM t = .error (e, p) ∧ e ≠ 0 ∧ q = (p : Int) ∧ ts = []) := by
  refine (lex_ok w t hG).mono ?_
  rintro v w' ⟨tv, e, q, rfl, k, h⟩
  unfold LexAns at h
  cases hm : lexM t with
  | ok ts =>
    rw [hm] at h
    obtain ⟨rfl, rfl, ho⟩ := h
    have hs := Sl_of_own (ok := anyB) ho fun _ _ => trivial
    obtain ⟨a, c, rfl, hr⟩ := id hs
    exact ⟨a, c, 0, -1, ts, rfl, k, hs, .inl ⟨rfl, rfl, rfl⟩⟩
  | error r =>
    obtain ⟨e', p⟩ := r
    rw [hm] at h
    obtain ⟨rfl, rfl, rfl⟩ := h
    exact ⟨none, 0, e, p, [], rfl, k, ⟨_, _, rfl, by simp, by omega, fun _ => rfl, .inl rfl⟩, .inr ⟨p, rfl, lexM_err hm, rfl, rfl⟩⟩

def ex1 : List UInt8 := [71, 40, 114, 45, 62, 70, 91, 51, 93, 103, 41]
def ex2 : List UInt8 := [97, 33, 61, 49, 32, 37, 32, 101, 110, 100]
def ex3 : List UInt8 := [120, 32, 45, 32, 121]
def ex4 : List UInt8 := [49, 50, 97]
def ex5 : List UInt8 := [70, 71, 32, 120]
def ex6 : List UInt8 := [32, 37, 32, 110, 111, 116, 104, 105, 110, 103]
theorem lex1 : lexM ex1 = .ok [⟨1, [71], 0⟩, ⟨3, [40], 1⟩, ⟨1, [114], 2⟩, ⟨3, [45, 62], 3⟩, ⟨1, [70], 5⟩, ⟨3, [91], 6⟩, ⟨2, [51], 7⟩, ⟨3, [93], 8⟩, ⟨1, [103], 9⟩, ⟨3, [41], 10⟩] := by kernel_rfl
theorem lex2 : lexM ex2 = .ok [⟨1, [97], 0⟩, ⟨3, [33, 61], 1⟩, ⟨2, [49], 3⟩] := by kernel_rfl
theorem lex3 : lexM ex3 = .error (40, 2) := by kernel_rfl
theorem lex4 : lexM ex4 = .error (40, 0) := by kernel_rfl
theorem lex5 : lexM ex5 = .ok [⟨1, [70], 0⟩, ⟨1, [71], 1⟩, ⟨1, [120], 3⟩] := by kernel_rfl
theorem lex6 : lexM ex6 = .ok [] := by kernel_rfl
end Go.Proofs.YteonolnfgppagaaDoor
