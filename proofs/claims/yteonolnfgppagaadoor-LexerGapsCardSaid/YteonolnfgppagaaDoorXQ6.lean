/- The lexer's plain law: tokens with gaps between them. Conditions: none. -/
import Derived.Test.YteonolnfgppagaaDoorXQ5
namespace Go.Proofs.YteonolnfgppagaaDoor
set_option linter.unusedVariables false

/-- a byte with which a gap begins -/
def sepB (c : UInt8) : Prop := c = 32 ∨ c = 9 ∨ c = 10 ∨ c = 13 ∨ c = 37
theorem sepB_sym {c : UInt8} (h : sepB c) : ∀ y ∈ symsL, c ∉ y := by
  rcases h with rfl | rfl | rfl | rfl | rfl <;> decide
theorem sepB_name {c : UInt8} (h : sepB c) : inName c = false := by
  rcases h with rfl | rfl | rfl | rfl | rfl <;> decide
theorem sepB_dig {c : UInt8} (h : sepB c) : isDig c = false := by
  rcases h with rfl | rfl | rfl | rfl | rfl <;> decide
theorem sepB_let {c : UInt8} (h : sepB c) : isLet c = false ∧ c.toNat ≠ 95 := by
  rcases h with rfl | rfl | rfl | rfl | rfl <;> decide
theorem whileB_appc {p : UInt8 → Bool} {c : UInt8} (hp : p c = false) (t u : List UInt8) (a : Nat) (h : a ≤ t.length) : whileB p (t ++ c :: u) a = whileB p t a := by
  unfold whileB
  rw [List.drop_append_of_le_length h]
  congr 2
  generalize t.drop a = l
  induction l with
  | nil => simp [hp]
  | cons x l ih =>
    rw [List.cons_append, List.takeWhile_cons, List.takeWhile_cons]
    cases p x <;> simp [ih]
theorem hasPre_appc {t u y : List UInt8} {c : UInt8} (hy : c ∉ y) : hasPre (t ++ c :: u) y = hasPre t y := by
  rw [Bool.eq_iff_iff, hasPre_iff, hasPre_iff]
  constructor
  · intro h
    by_cases hl : y.length ≤ t.length
    · exact List.prefix_of_prefix_length_le h (List.prefix_append _ _) hl
    · exfalso
      have h1 : t ++ [c] <+: t ++ c :: u := ⟨u, by simp⟩
      have h2 : t ++ [c] <+: y := List.prefix_of_prefix_length_le h1 h (by simp; omega)
      exact hy (h2.subset (by simp))
  · intro h; exact h.trans (List.prefix_append _ _)
/-- a token does not depend on the gap behind it -/
theorem step_appc {c : UInt8} (hc : sepB c) (t u : List UInt8) (a : Nat) (ts : List Tok) (h : a < t.length) (hk : kindB (t.getD a 0) ≠ some 1) : stepM (t ++ c :: u) a ts = stepM t a ts := by
  unfold stepM
  rw [getD_app h]
  cases hkk : kindB (t.getD a 0) with
  | none => rfl
  | some k =>
    match k with
    | 0 => rfl
    | 1 => exact absurd hkk hk
    | 2 =>
      simp only [nameM]
      rw [whileB_appc (sepB_name hc) t u (a + 1) (by omega), addM_app _ _ _ _ _ _ (whileB_le (by omega))]
    | 3 =>
      have hle := whileB_le (p := isDig) (t := t) (a := a) (by omega)
      have hb : numBad (t ++ c :: u) a = numBad t a := by
        unfold numBad
        rw [whileB_appc (sepB_dig hc) t u a (by omega), getD_app h]
        congr 1
        by_cases hn : whileB isDig t a < t.length
        · rw [getD_app hn]; simp [hn]; intro _; omega
        · have e : whileB isDig t a = t.length := by omega
          rw [e]
          have : (t ++ c :: u).getD t.length 0 = c := by simp [List.getD_eq_getElem?_getD]
          rw [this]
          obtain ⟨h1, h2⟩ := sepB_let hc
          simp [h1, h2]
      simp only [numM]
      rw [hb, whileB_appc (sepB_dig hc) t u a (by omega), addM_app _ _ _ _ _ _ hle]
    | k + 4 =>
      simp only [symM]
      have hf : symsL.find? (hasPre ((t ++ c :: u).drop a)) = symsL.find? (hasPre (t.drop a)) := by
        have hn : ∀ y ∈ symsL, c ∉ y := sepB_sym hc
        rw [List.drop_append_of_le_length (by omega)]
        generalize symsL = l at hn
        induction l with
        | nil => rfl
        | cons y l ih =>
          rw [List.find?_cons, List.find?_cons, hasPre_appc (hn y (by simp)), ih fun z hz => hn z (by simp [hz])]
      rw [hf]
      split
      · rename_i y hy
        have := ((hasPre_iff _ _).1 (List.find?_some hy)).length_le
        simp at this
        rw [addM_app _ _ _ _ _ _ (by omega)]
      · rfl

theorem addM_un {v u : List UInt8} {a1 n : Nat} {ts : List Tok} {x : Tok} {k : Int} (h : addM (v ++ u) v.length ts k (v.length + n) = .ok (a1, ts ++ [x])) :
    addM u 0 [] k n = .ok (a1 - v.length, [⟨x.kind, x.text, 0⟩]) := by
  have e := addM_ok h
  obtain ⟨e1, e2⟩ := addM_le h
  subst e
  have := List.append_cancel_left e1
  simp at this
  subst this
  unfold addM
  have := take_sh v u 0 n
  simp at this
  simp [this]
/-- a token that begins where a text begins -/
theorem step_un {v u : List UInt8} {a1 : Nat} {ts : List Tok} {x : Tok} (h : stepM (v ++ u) v.length ts = .ok (a1, ts ++ [x])) :
    kindB (u.getD 0 0) ≠ some 1 ∧ stepM u 0 [] = .ok (a1 - v.length, [⟨x.kind, x.text, 0⟩]) := by
  unfold stepM at h ⊢
  have hg := getD_sh v u 0
  simp only [Nat.add_zero] at hg
  rw [hg] at h
  split at h
  · simp [blankM] at h
  · simp [commM] at h
  · rename_i hk
    rw [hk]
    refine ⟨by simp, ?_⟩
    unfold nameM at h ⊢
    have hw := whileB_sh (q := inName) v u 1
    split at h
    · cases h
    · rename_i hn
      rw [hw] at h hn
      rw [if_neg (by simp only [Nat.zero_add]; omega)]
      exact addM_un h
  · rename_i hk
    simp only [hk]
    refine ⟨by simp, ?_⟩
    unfold numM at h ⊢
    have hw := whileB_sh (q := isDig) v u 0
    have hb := numBad_sh v u 0
    simp only [Nat.add_zero] at hw hb
    rw [hb, hw] at h
    split at h
    · cases h
    · rename_i hn
      rw [if_neg hn]
      exact addM_un h
  · rename_i k h0 h1 h2 h3 hk
    rw [hk]
    refine ⟨fun e => h1 (Option.some.inj e), ?_⟩
    unfold symM at h ⊢
    have hd := drop_sh v u 0
    simp only [Nat.add_zero, List.drop_zero] at hd
    rw [hd] at h
    split at h
    · rename_i y hy
      rw [List.drop_zero, hy]
      simp only [Nat.zero_add]
      exact addM_un h
    · cases h
  · cases h

/-- a text that is one token -/
structure Alone (k : Int) (y : List UInt8) : Prop where
  pos : 1 ≤ y.length
  kind : kindB (y.getD 0 0) ≠ some 1
  step : stepM y 0 [] = .ok (y.length, [⟨k, y, 0⟩])

theorem Reach1.alone {t : List UInt8} {a b : Nat} {ts tsb : List Tok} (h : Reach1 t a ts b tsb) (hb : b ≤ t.length) (hA : ∀ x ∈ ts, Alone x.kind x.text) : ∀ x ∈ tsb, Alone x.kind x.text := by
  induction h with
  | refl => exact hA
  | step h hs hr ih =>
    rename_i a a1 b ts ts1 tsb
    refine ih hb ?_
    have h0 := step_on h hs
    have h1 := step_le h hs
    rcases step_shape hs with rfl | ⟨k, rfl⟩
    · exact hA
    · intro x hx
      rcases List.mem_append.1 hx with hx | hx
      · exact hA x hx
      · simp at hx
        subst hx
        have g := step_take (p := a1) h1 h hs (Nat.le_refl _)
        have hv : (t.take a).length = a := by simp; omega
        have et : t.take a1 = t.take a ++ (t.take a1).drop a := by
          have : t.take a = (t.take a1).take a := by rw [List.take_take, Nat.min_eq_left (by omega)]
          rw [this, List.take_append_drop]
        generalize hy : (t.take a1).drop a = y at et g ⊢
        have hyl : y.length = a1 - a := by rw [← hy]; simp; omega
        rw [et] at g
        have g' : stepM (t.take a ++ y) (t.take a).length ts = .ok (a1, ts ++ [⟨k, y, a⟩]) := by rw [hv]; exact g
        obtain ⟨g1, g2⟩ := step_un g'
        rw [hv, ← hyl] at g2
        exact ⟨by simp only; omega, g1, g2⟩

/-! ### The law -/
def gapsL : List (List UInt8) := [[32], [9, 10], [37, 32, 120, 10], [32, 32, 13], [10, 37, 10, 32]]
theorem gap_step : ∀ g ∈ gapsL, (∃ c r, g = c :: r ∧ sepB c) ∧ g.length ≤ 4 ∧ ∀ u, Reach1 (g ++ u) 0 [] g.length [] := by
  intro g hg
  simp only [gapsL, List.mem_cons, List.not_mem_nil, or_false] at hg
  rcases hg with rfl | rfl | rfl | rfl | rfl
  · exact ⟨⟨_, _, rfl, .inl rfl⟩, by simp, fun u => .step (a1 := 1) (by simp) rfl (.refl _ _)⟩
  · exact ⟨⟨_, _, rfl, .inr (.inl rfl)⟩, by simp, fun u => .step (a1 := 1) (by simp) rfl (.step (a1 := 2) (by simp) rfl (.refl _ _))⟩
  · exact ⟨⟨_, _, rfl, .inr (.inr (.inr (.inr rfl)))⟩, by simp, fun u => .step (a1 := 3) (by simp) rfl (.step (a1 := 4) (by simp) rfl (.refl _ _))⟩
  · exact ⟨⟨_, _, rfl, .inl rfl⟩, by simp, fun u => .step (a1 := 1) (by simp) rfl (.step (a1 := 2) (by simp) rfl (.step (a1 := 3) (by simp) rfl (.refl _ _)))⟩
  · exact ⟨⟨_, _, rfl, .inr (.inr (.inl rfl))⟩, by simp, fun u => .step (a1 := 1) (by simp) rfl (.step (a1 := 2) (by simp) rfl (.step (a1 := 3) (by simp) rfl (.step (a1 := 4) (by simp) rfl (.refl _ _))))⟩

def bare (x : Tok) : Int × List UInt8 := (x.kind, x.text)
/-- what has been written reads as these tokens, whatever follows -/
def Reads (s : List UInt8) (us : List Tok) : Prop := ∀ u, Reach1 (s ++ u) 0 [] s.length us
theorem Reads.gap {s g : List UInt8} {us : List Tok} (h : Reads s us) (hg : g ∈ gapsL) (hu : us.length ≤ 2000) : Reads (s ++ g) us := by
  intro u
  have h1 := h (g ++ u)
  have h2 := ((gap_step g hg).2.2 u).shift s us (by simpa using hu)
  simp only [Nat.add_zero, List.map_nil, List.append_nil] at h2
  rw [List.append_assoc, List.length_append]
  exact h1.trans h2
theorem Reads.tok {s g y : List UInt8} {us : List Tok} {k : Int} (h : Reads s us) (hy : Alone k y) (hg : g ∈ gapsL) (hu : us.length < 2000) : Reads (s ++ y ++ g) (us ++ [⟨k, y, s.length⟩]) := by
  intro u
  obtain ⟨⟨c, r, e, hc⟩, _, hgr⟩ := gap_step g hg
  have h1 := h (y ++ (g ++ u))
  have hs : stepM (y ++ (g ++ u)) 0 [] = .ok (y.length, [⟨k, y, 0⟩]) := by
    rw [e, List.cons_append, step_appc hc y _ 0 [] (by have := hy.pos; omega) hy.kind]
    exact hy.step
  have h2 : Reach1 (y ++ (g ++ u)) 0 [] y.length [⟨k, y, 0⟩] := .step (by have := hy.pos; simp; omega) hs (.refl _ _)
  have h2 := h2.shift s us (by simp; omega)
  have h3 := ((hgr u).shift (s ++ y) (us ++ [⟨k, y, s.length⟩]) (by simp; omega))
  simp only [Nat.add_zero, List.map_nil, List.append_nil, List.map_cons, shT, Nat.zero_add, List.length_append, List.append_assoc] at h2 h3 ⊢
  have := (h1.trans h2).trans h3
  rw [← Nat.add_assoc]
  exact this

/-- the bytes of tokens -/
def bytesT (l : List Tok) : Nat := (l.map fun x => x.text.length).sum
theorem Reach1.bytes {t : List UInt8} {a b : Nat} {ts tsb : List Tok} (h : Reach1 t a ts b tsb) : bytesT tsb + a ≤ bytesT ts + b := by
  induction h with
  | refl => omega
  | step h hs hr ih =>
    have := step_on h hs
    rcases step_shape hs with rfl | ⟨k, rfl⟩
    · omega
    · simp [bytesT] at ih ⊢; omega
theorem bytesT_take (l : List Tok) (k : Nat) : bytesT (l.take k) ≤ bytesT l := by
  have h := congrArg bytesT (List.take_append_drop k l)
  simp only [bytesT, List.map_append, List.sum_append] at h ⊢
  omega
end Go.Proofs.YteonolnfgppagaaDoor
