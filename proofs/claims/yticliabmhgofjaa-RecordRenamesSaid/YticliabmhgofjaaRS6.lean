/- RecordRenames: for every input the law returns true and each argument reads as it did. Conditions: none. -/
import Derived.Test.YticliabmhgofjaaRL5
import Derived.Test.YticliabmhgofjaaCloseR
namespace Go.Proofs.Yticliabmhgofjaa
open Go.ChangeShapes Go.WideShapes Go.ChangeAt Go.RowKit
set_option linter.unusedVariables false

theorem RecordRenames_open {H : Type} {enc : TypeId × Value → H} (W : World) (base : Nat) (args : List Value) (ds : List (DataW H)) (p : List MemPlace) (hval : ∀ (j : Nat) t v, Try.f8.params.toList[j]? = some t → args[j]? = some v → Value.okWide Try.prog W .any base t v)
    (hA : DataW.TrodAll enc Try.prog W 0 (fun _ => true) true Try.f8.params.toList args ds p) : Fn Try.prog 8 args W fun v w' => v = .bool true ∧ Ext W w' := by
  rw [Try.params8] at hA hval
  obtain ⟨v0, _, d0, _, p0, q0, rfl, rfl, rfl, ⟨n0, h0⟩, r0⟩ := trodAll_cons hA
  obtain ⟨v1, _, d1, _, p1, q1, rfl, rfl, rfl, ⟨n1, h1⟩, r1⟩ := trodAll_cons r0
  obtain ⟨v2, _, d2, _, p2, q2, rfl, rfl, rfl, ⟨n2, h2⟩, r2⟩ := trodAll_cons r1
  obtain ⟨v3, _, d3, _, p3, q3, rfl, rfl, rfl, ⟨n3, h3⟩, r3⟩ := trodAll_cons r2
  obtain ⟨rfl, rfl, rfl⟩ := trodAll_nil r3
  obtain ⟨u0, l0, e0, b0⟩ := open_Ints Try.underlying22 Try.underlying3 (by kernel_rfl) h0
  obtain rfl := val_one Try.underlying22 (hval 0 _ v0 rfl rfl) e0
  obtain ⟨u1, l1, e1, b1⟩ := open_Ints Try.underlying22 Try.underlying3 (by kernel_rfl) h1
  obtain rfl := val_one Try.underlying22 (hval 1 _ v1 rfl rfl) e1
  obtain ⟨g2, bd2, ev2, e2, b2⟩ := open_Ev h2
  obtain rfl := val_ev (hval 2 _ v2 rfl rfl) e2
  obtain ⟨u3, es3, e3, b3⟩ := open_Evs h3
  obtain rfl := val_one Try.underlying25 (hval 3 _ v3 rfl rfl) e3
  exact RecordRenames_law v0 v1 g2 bd2 v3 l0 l1 ev2 es3 W b0 b1 b2 b3

set_option maxRecDepth 100000 in
theorem RecordRenames_lifted (os : Os) (started : os.Started) (H : Type) (enc : TypeId × Value → H) :
    ReturnsInHanded {} Try.checked os 8 .any (Rows.recordRenamesSpec.pre6 enc Try.prog Try.f8 Rows.recordRenamesRow.domain false) (Rows.recordRenamesSpec.post enc Try.prog Try.f8 false true false false) :=
  law_lifted started (by kernel_rfl) Try.func8
    (ChangeSpec.witness6 (enc := enc) (C := Try.checked) false ⟨#[], #[.slice none 0 0, .slice none 0 0, .agg #[.slice none 0 0, .slice none 0 0], .slice none 0 0], []⟩ 8 (by kernel_rfl) (by kernel_rfl) (by kernel_rfl) (by kernel_rfl)) rfl (by kernel_rfl) (by kernel_rfl)
    (fun ds h => by
      match ds, h with
      | [d1, d2, d3, d4], _ => rfl) RecordRenames_open
theorem RecordRenames_proved : Rows.RecordRenamesSaid :=
  OpenClaim.holds_of_wide 8 Try.f8 rfl rfl rfl rfl rfl rfl rfl ⟨rfl, rfl, rfl, rfl, rfl⟩ rfl rfl rfl rfl rfl (by kernel_rfl) Try.func8 (by kernel_rfl)
    (of_decide_eq_true (by kernel_rfl)) (by unfold Func.isWrapper; first | (rw [if_pos (by decide +kernel)]; kernel_rfl) | (rw [if_neg (by decide +kernel)]; exact ⟨rfl, rfl⟩))
    (fun os started H enc _ => RecordRenames_lifted os started H enc)
end Go.Proofs.Yticliabmhgofjaa
