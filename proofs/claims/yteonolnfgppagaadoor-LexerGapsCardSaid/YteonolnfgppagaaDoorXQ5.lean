/- The lexer's plain law: tokens stand in the text. Conditions: none. -/
import Derived.Test.YteonolnfgppagaaDoorXQ4
namespace Go.Proofs.YteonolnfgppagaaDoor
set_option linter.unusedVariables false

/-- the next token from a place of the scan on -/
theorem Reach1.first {t : List UInt8} {a b : Nat} {ts tsb : List Tok} (h : Reach1 t a ts b tsb) (hb : b ≤ t.length) (hlt : ts.length < tsb.length) :
    ∃ x, tsb[ts.length]? = some x ∧ Reach1 t a ts x.loc ts ∧ x.text = (t.take (x.loc + x.text.length)).drop x.loc ∧ 1 ≤ x.text.length ∧ x.loc + x.text.length ≤ b ∧ Reach1 t (x.loc + x.text.length) (ts ++ [x]) b tsb := by
  induction h with
  | refl => omega
  | step h hs hr ih =>
    rename_i a a1 b ts ts1 tsb
    have h0 := step_on h hs
    have h2 := hr.le
    rcases step_shape hs with rfl | ⟨kd, rfl⟩
    · obtain ⟨x, g1, g2, g3⟩ := ih hb hlt
      exact ⟨x, g1, .step h hs g2, g3⟩
    · obtain ⟨r, hr'⟩ := hr.pre
      have hlen : a + ((t.take a1).drop a).length = a1 := by simp; omega
      refine ⟨⟨kd, (t.take a1).drop a, a⟩, by rw [← hr']; simp, .refl _ _, ?_, ?_, ?_, ?_⟩
      · simp only; rw [hlen]
      · simp only; omega
      · simp only; omega
      · simp only; rw [hlen]; exact hr
end Go.Proofs.YteonolnfgppagaaDoor
