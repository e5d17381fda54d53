/- RecordWins: for every input the law returns true and each argument reads as it did. Conditions: none. -/
import Derived.Test.YticliabmhgofjaaRL4
import Derived.Test.YticliabmhgofjaaCloseR
namespace Go.Proofs.Yticliabmhgofjaa
open Go.ChangeShapes Go.WideShapes Go.ChangeAt Go.RowKit
set_option linter.unusedVariables false

theorem RecordWins_open {H : Type} {enc : TypeId × Value → H} (W : World) (base : Nat) (args : List Value) (ds : List (DataW H)) (p : List MemPlace) (hval : ∀ (j : Nat) t v, Try.f6.params.toList[j]? = some t → args[j]? = some v → Value.okWide Try.prog W .any base t v)
    (hA : DataW.TrodAll enc Try.prog W 0 (fun _ => true) true Try.f6.params.toList args ds p) : Fn Try.prog 6 args W fun v w' => v = .bool true ∧ Ext W w' := by
  rw [Try.params6] at hA hval
  obtain ⟨v0, _, d0, _, p0, q0, rfl, rfl, rfl, ⟨n0, h0⟩, r0⟩ := trodAll_cons hA
  obtain ⟨v1, _, d1, _, p1, q1, rfl, rfl, rfl, ⟨n1, h1⟩, r1⟩ := trodAll_cons r0
  obtain ⟨v2, _, d2, _, p2, q2, rfl, rfl, rfl, ⟨n2, h2⟩, r2⟩ := trodAll_cons r1
  obtain ⟨rfl, rfl, rfl⟩ := trodAll_nil r2
  obtain ⟨u0, l0, e0, b0⟩ := open_Ints Try.underlying22 Try.underlying3 (by kernel_rfl) h0
  obtain rfl := val_one Try.underlying22 (hval 0 _ v0 rfl rfl) e0
  obtain ⟨u1, es1, e1, b1⟩ := open_Evs h1
  obtain rfl := val_one Try.underlying25 (hval 1 _ v1 rfl rfl) e1
  obtain ⟨u2, es2, e2, b2⟩ := open_Evs h2
  obtain rfl := val_one Try.underlying25 (hval 2 _ v2 rfl rfl) e2
  exact RecordWins_law v0 v1 v2 l0 es1 es2 W b0 b1 b2

set_option maxRecDepth 100000 in
theorem RecordWins_lifted (os : Os) (started : os.Started) (H : Type) (enc : TypeId × Value → H) :
    ReturnsInHanded {} Try.checked os 6 .any (Rows.recordWinsSpec.pre6 enc Try.prog Try.f6 Rows.recordWinsRow.domain false) (Rows.recordWinsSpec.post enc Try.prog Try.f6 false true false false) :=
  law_lifted started (by kernel_rfl) Try.func6
    (ChangeSpec.witness6 (enc := enc) (C := Try.checked) false ⟨#[], #[.slice none 0 0, .slice none 0 0, .slice none 0 0], []⟩ 8 (by kernel_rfl) (by kernel_rfl) (by kernel_rfl) (by kernel_rfl)) rfl (by kernel_rfl) (by kernel_rfl)
    (fun ds h => by
      match ds, h with
      | [d1, d2, d3], _ => rfl) RecordWins_open
theorem RecordWins_proved : Rows.RecordWinsSaid :=
  OpenClaim.holds_of_wide 6 Try.f6 rfl rfl rfl rfl rfl rfl rfl ⟨rfl, rfl, rfl, rfl, rfl⟩ rfl rfl rfl rfl rfl (by kernel_rfl) Try.func6 (by kernel_rfl)
    (of_decide_eq_true (by kernel_rfl)) (by unfold Func.isWrapper; first | (rw [if_pos (by decide +kernel)]; kernel_rfl) | (rw [if_neg (by decide +kernel)]; exact ⟨rfl, rfl⟩))
    (fun os started H enc _ => RecordWins_lifted os started H enc)
end Go.Proofs.Yticliabmhgofjaa
