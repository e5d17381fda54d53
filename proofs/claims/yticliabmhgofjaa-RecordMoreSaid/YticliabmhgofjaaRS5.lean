/- RecordMore: for every input the law returns true and each argument reads as it did. Conditions: none. -/
import Derived.Test.YticliabmhgofjaaRL6
import Derived.Test.YticliabmhgofjaaCloseR
namespace Go.Proofs.Yticliabmhgofjaa
open Go.ChangeShapes Go.WideShapes Go.ChangeAt Go.RowKit
set_option linter.unusedVariables false

theorem RecordMore_open {H : Type} {enc : TypeId × Value → H} (W : World) (base : Nat) (args : List Value) (ds : List (DataW H)) (p : List MemPlace) (hval : ∀ (j : Nat) t v, Try.f7.params.toList[j]? = some t → args[j]? = some v → Value.okWide Try.prog W .any base t v)
    (hA : DataW.TrodAll enc Try.prog W 0 (fun _ => true) true Try.f7.params.toList args ds p) : Fn Try.prog 7 args W fun v w' => v = .bool true ∧ Ext W w' := by
  rw [Try.params7] at hA hval
  obtain ⟨v0, _, d0, _, p0, q0, rfl, rfl, rfl, ⟨n0, h0⟩, r0⟩ := trodAll_cons hA
  obtain ⟨v1, _, d1, _, p1, q1, rfl, rfl, rfl, ⟨n1, h1⟩, r1⟩ := trodAll_cons r0
  obtain ⟨rfl, rfl, rfl⟩ := trodAll_nil r1
  obtain ⟨u0, l0, e0, b0⟩ := open_Ints Try.underlying22 Try.underlying3 (by kernel_rfl) h0
  obtain rfl := val_one Try.underlying22 (hval 0 _ v0 rfl rfl) e0
  obtain ⟨g1, bd1, ev1, e1, b1⟩ := open_Ev h1
  obtain rfl := val_ev (hval 1 _ v1 rfl rfl) e1
  exact RecordMore_law v0 g1 bd1 l0 ev1 W b0 b1

set_option maxRecDepth 100000 in
theorem RecordMore_lifted (os : Os) (started : os.Started) (H : Type) (enc : TypeId × Value → H) :
    ReturnsInHanded {} Try.checked os 7 .any (Rows.recordMoreSpec.pre6 enc Try.prog Try.f7 Rows.recordMoreRow.domain false) (Rows.recordMoreSpec.post enc Try.prog Try.f7 false true false false) :=
  law_lifted started (by kernel_rfl) Try.func7
    (ChangeSpec.witness6 (enc := enc) (C := Try.checked) false ⟨#[], #[.slice none 0 0, .agg #[.slice none 0 0, .slice none 0 0]], []⟩ 8 (by kernel_rfl) (by kernel_rfl) (by kernel_rfl) (by kernel_rfl)) rfl (by kernel_rfl) (by kernel_rfl)
    (fun ds h => by
      match ds, h with
      | [d1, d2], _ => rfl) RecordMore_open
theorem RecordMore_proved : Rows.RecordMoreSaid :=
  OpenClaim.holds_of_wide 7 Try.f7 rfl rfl rfl rfl rfl rfl rfl ⟨rfl, rfl, rfl, rfl, rfl⟩ rfl rfl rfl rfl rfl (by kernel_rfl) Try.func7 (by kernel_rfl)
    (of_decide_eq_true (by kernel_rfl)) (by unfold Func.isWrapper; first | (rw [if_pos (by decide +kernel)]; kernel_rfl) | (rw [if_neg (by decide +kernel)]; exact ⟨rfl, rfl⟩))
    (fun os started H enc _ => RecordMore_lifted os started H enc)
end Go.Proofs.Yticliabmhgofjaa
