/- RecordMatchesReference: for every input the law returns true and each argument reads as it did. Conditions: none. -/
import Derived.Test.YticliabmhgofjaaRL2
import Derived.Test.YticliabmhgofjaaCloseR
namespace Go.Proofs.Yticliabmhgofjaa
open Go.ChangeShapes Go.WideShapes Go.ChangeAt Go.RowKit
set_option linter.unusedVariables false

theorem RecordMatchesReference_open {H : Type} {enc : TypeId × Value → H} (W : World) (base : Nat) (args : List Value) (ds : List (DataW H)) (p : List MemPlace) (hval : ∀ (j : Nat) t v, Try.f3.params.toList[j]? = some t → args[j]? = some v → Value.okWide Try.prog W .any base t v)
    (hA : DataW.TrodAll enc Try.prog W 0 (fun _ => true) true Try.f3.params.toList args ds p) : Fn Try.prog 3 args W fun v w' => v = .bool true ∧ Ext W w' := by
  rw [Try.params3] at hA hval
  obtain ⟨v0, _, d0, _, p0, q0, rfl, rfl, rfl, ⟨n0, h0⟩, r0⟩ := trodAll_cons hA
  obtain ⟨v1, _, d1, _, p1, q1, rfl, rfl, rfl, ⟨n1, h1⟩, r1⟩ := trodAll_cons r0
  obtain ⟨v2, _, d2, _, p2, q2, rfl, rfl, rfl, ⟨n2, h2⟩, r2⟩ := trodAll_cons r1
  obtain ⟨v3, _, d3, _, p3, q3, rfl, rfl, rfl, ⟨n3, h3⟩, r3⟩ := trodAll_cons r2
  obtain ⟨v4, _, d4, _, p4, q4, rfl, rfl, rfl, ⟨n4, h4⟩, r4⟩ := trodAll_cons r3
  obtain ⟨rfl, rfl, rfl⟩ := trodAll_nil r4
  obtain ⟨u0, l0, e0, b0⟩ := open_Ints Try.underlying22 Try.underlying3 (by kernel_rfl) h0
  obtain rfl := val_one Try.underlying22 (hval 0 _ v0 rfl rfl) e0
  obtain ⟨c1, rfl, _, _, w1⟩ := open_int Try.underlying3 (hval 1 _ v1 rfl rfl) ⟨n1, h1⟩
  obtain ⟨g2, bd2, ev2, e2, b2⟩ := open_Ev h2
  obtain rfl := val_ev (hval 2 _ v2 rfl rfl) e2
  obtain ⟨u3, es3, e3, b3⟩ := open_Evs h3
  obtain rfl := val_one Try.underlying25 (hval 3 _ v3 rfl rfl) e3
  obtain ⟨u4, es4, e4, b4⟩ := open_Evs h4
  obtain rfl := val_one Try.underlying25 (hval 4 _ v4 rfl rfl) e4
  exact RecordMatchesReference_law v0 g2 bd2 v3 v4 l0 c1 ev2 es3 es4 W b0 b2 b3 b4

set_option maxRecDepth 100000 in
theorem RecordMatchesReference_lifted (os : Os) (started : os.Started) (H : Type) (enc : TypeId × Value → H) :
    ReturnsInHanded {} Try.checked os 3 .any (Rows.recordMatchesReferenceSpec.pre6 enc Try.prog Try.f3 Rows.recordMatchesReferenceRow.domain false) (Rows.recordMatchesReferenceSpec.post enc Try.prog Try.f3 false true false false) :=
  law_lifted started (by kernel_rfl) Try.func3
    (ChangeSpec.witness6 (enc := enc) (C := Try.checked) false ⟨#[], #[.slice none 0 0, .int .i64 0, .agg #[.slice none 0 0, .slice none 0 0], .slice none 0 0, .slice none 0 0], []⟩ 8 (by kernel_rfl) (by kernel_rfl) (by kernel_rfl) (by kernel_rfl)) rfl (by kernel_rfl) (by kernel_rfl)
    (fun ds h => by
      match ds, h with
      | [d1, d2, d3, d4, d5], _ => rfl) RecordMatchesReference_open
theorem RecordMatchesReference_proved : Rows.RecordMatchesReferenceSaid :=
  OpenClaim.holds_of_wide 3 Try.f3 rfl rfl rfl rfl rfl rfl rfl ⟨rfl, rfl, rfl, rfl, rfl⟩ rfl rfl rfl rfl rfl (by kernel_rfl) Try.func3 (by kernel_rfl)
    (of_decide_eq_true (by kernel_rfl)) (by unfold Func.isWrapper; first | (rw [if_pos (by decide +kernel)]; kernel_rfl) | (rw [if_neg (by decide +kernel)]; exact ⟨rfl, rfl⟩))
    (fun os started H enc _ => RecordMatchesReference_lifted os started H enc)
end Go.Proofs.Yticliabmhgofjaa
