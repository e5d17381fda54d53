/- The lexer's plain law: gaps between the tokens. Conditions: none. -/
import Derived.Test.YteonolnfgppagaaDoorXG
namespace Go.Proofs.YteonolnfgppagaaDoor
set_option linter.unusedVariables false

theorem kindB_0 {c : UInt8} (h : kindB c = some 0) : c.toNat ≠ 37 ∧ isBlank c = true := by
  unfold kindB at h
  obtain ⟨p, hp, hk⟩ := Option.map_eq_some_iff.1 h
  have h1 := List.find?_some hp
  have h2 := List.mem_of_find?_eq_some hp
  simp [spansL] at h2
  rcases h2 with rfl | rfl | rfl | rfl | rfl | rfl | rfl | rfl | rfl | rfl | rfl | rfl | rfl | rfl | rfl | rfl <;> simp at hk
  all_goals
    simp [inSpan] at h1
    simp [isBlank]
    omega
theorem kindB_1 {c : UInt8} (h : kindB c = some 1) : c.toNat = 37 := by
  unfold kindB at h
  obtain ⟨p, hp, hk⟩ := Option.map_eq_some_iff.1 h
  have h1 := List.find?_some hp
  have h2 := List.mem_of_find?_eq_some hp
  simp [spansL] at h2
  rcases h2 with rfl | rfl | rfl | rfl | rfl | rfl | rfl | rfl | rfl | rfl | rfl | rfl | rfl | rfl | rfl | rfl <;> simp at hk
  simp [inSpan] at h1
  omega
/-- a step that adds no token -/
theorem step_gap {t : List UInt8} {a a1 : Nat} {ts : List Tok} (h : stepM t a ts = .ok (a1, ts)) :
    ((t.getD a 0).toNat ≠ 37 ∧ isBlank (t.getD a 0) = true ∧ a1 = a + 1) ∨ ((t.getD a 0).toNat = 37 ∧ a1 = whileB inComm t a) := by
  have no : ∀ {k : Int} {n : Nat}, addM t a ts k n = .ok (a1, ts) → False := fun h => by have := (addM_le h).1; simp at this
  unfold stepM at h
  split at h
  · rename_i hk; cases h; exact .inl ⟨(kindB_0 hk).1, (kindB_0 hk).2, rfl⟩
  · rename_i hk; cases h; exact .inr ⟨kindB_1 hk, rfl⟩
  · unfold nameM at h
    split at h
    · cases h
    · exact (no h).elim
  · unfold numM at h
    split at h
    · cases h
    · exact (no h).elim
  · unfold symM at h
    split at h
    · exact (no h).elim
    · cases h
  · cases h
theorem gap_reach {t : List UInt8} {a b : Nat} {ts tsb : List Tok} (h : Reach1 t a ts b tsb) (e : tsb.length = ts.length) (hb : b ≤ t.length) : gapW (t.take b) a = b := by
  induction h with
  | refl a ts =>
    have e : (t.take a).length = a := by simp; omega
    have := gapW_end (t := t.take a)
    rwa [e] at this
  | step h hs hr ih =>
    rename_i a a1 b ts ts1 tsb
    have h1 := hr.pre.length_le
    have h2 := hr.le
    have h3 := step_on h hs
    obtain rfl : ts1 = ts := by
      rcases step_shape hs with rfl | ⟨k, rfl⟩
      · rfl
      · simp at h1; omega
    have hc : (t.take b)[a]? = some t[a] := by rw [List.getElem?_take, if_pos (by omega)]; exact List.getElem?_eq_getElem h
    have hg : t.getD a 0 = t[a] := getD_of (List.getElem?_eq_getElem h)
    have ih := ih e hb
    rw [gapW_step hc]
    rcases step_gap hs with ⟨g1, g2, rfl⟩ | ⟨g1, rfl⟩
    · rw [hg] at g1 g2
      rw [if_neg g1, if_pos g2]; exact ih
    · rw [hg] at g1
      rw [if_pos g1, whileB_take h2]; exact ih
theorem gapF_sh (v u : List UInt8) : ∀ (n j : Nat), gapF (v ++ u) n (v.length + j) = v.length + gapF u n j
  | 0, j => rfl
  | n + 1, j => by
    unfold gapF
    rw [getD_sh, whileB_sh, Nat.add_assoc, gapF_sh v u n, gapF_sh v u n]
    have e : (v.length + j < (v ++ u).length) = (j < u.length) := by simp
    simp only [e]
    split
    · split
      · rfl
      · split <;> rfl
    · rfl
theorem gapW_sh (v u : List UInt8) (j : Nat) (hj : j ≤ u.length) : gapW (v ++ u) (v.length + j) = v.length + gapW u j := by
  unfold gapW
  rw [← gapF_sh, show (v ++ u).length + 1 - (v.length + j) = u.length + 1 - j by simp; omega]
/-- what lies between two places of the scan, with no token between them, consists of gaps -/
theorem gap_between {t : List UInt8} {a b : Nat} {ts tsb : List Tok} (h : Reach1 t a ts b tsb) (e : tsb.length = ts.length) (hb : b ≤ t.length) : gapW ((t.take b).drop a) 0 = ((t.take b).drop a).length := by
  have hab := h.le
  have h1 := gap_reach h e hb
  have hv : ((t.take b).take a).length = a := by simp; omega
  have h2 := gapW_sh ((t.take b).take a) ((t.take b).drop a) 0 (by omega)
  rw [List.take_append_drop, hv, Nat.add_zero, h1] at h2
  have hl : ((t.take b).drop a).length = b - a := by simp; omega
  omega
end Go.Proofs.YteonolnfgppagaaDoor
