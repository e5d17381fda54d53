/- JournalTears: for every input the law returns true and each argument reads as it did. Conditions: none. -/
import Derived.Test.YtfbahfibgmdlnaaL4
namespace Go.Proofs.Ytfbahfibgmdlnaa
open Go.ChangeShapes Go.WideShapes Go.ChangeAt Go.RowKit
set_option linter.unusedVariables false


theorem JournalTears_open {H : Type} {enc : TypeId × Value → H} (W : World) (base : Nat) (args : List Value) (ds : List (DataW H)) (p : List MemPlace) (hval : ∀ (j : Nat) t v, Try.f6.params.toList[j]? = some t → args[j]? = some v → Value.okWide Try.prog W .any base t v)
    (hA : DataW.TrodAll enc Try.prog W 0 (fun _ => true) true Try.f6.params.toList args ds p) : Fn Try.prog 6 args W fun v w' => v = .bool true ∧ Ext W w' := by
  rw [Try.params6] at hA hval
  obtain ⟨v0, _, d0, _, p0, q0, rfl, rfl, rfl, ⟨n0, h0⟩, r0⟩ := trodAll_cons hA
  obtain ⟨v1, _, d1, _, p1, q1, rfl, rfl, rfl, ⟨n1, h1⟩, r1⟩ := trodAll_cons r0
  obtain ⟨rfl, rfl, rfl⟩ := trodAll_nil r1
  obtain ⟨u0, ls0, e0, b0⟩ := open_LB Try.underlying31 Try.underlying24 Try.underlying5 (by kernel_rfl) (by kernel_rfl) h0
  obtain rfl := val_one Try.underlying31 (hval 0 _ v0 rfl rfl) e0
  obtain ⟨c1, rfl, _, _, w1⟩ := open_int Try.underlying40 (hval 1 _ v1 rfl rfl) ⟨n1, h1⟩
  have hc1 : 0 ≤ c1 ∧ c1 ≤ 65535 := by simpa [Lit.wf, IntKind.min, IntKind.max, IntKind.signed, IntKind.bits] using w1
  exact Tears_law v0 ls0 c1 W b0 hc1.1 hc1.2

set_option maxRecDepth 100000 in
theorem JournalTears_lifted (os : Os) (started : os.Started) (H : Type) (enc : TypeId × Value → H) :
    ReturnsInHanded {} Try.checked os 6 .any (Rows.journalTearsSpec.pre6 enc Try.prog Try.f6 Rows.journalTearsRow.domain false) (Rows.journalTearsSpec.post enc Try.prog Try.f6 false true false false) :=
  law_lifted started (by kernel_rfl) Try.func6
    (ChangeSpec.witness6 (enc := enc) (C := Try.checked) false ⟨#[], #[.slice none 0 0, .int .u16 0], []⟩ 8 (by kernel_rfl) (by kernel_rfl) (by kernel_rfl) (by kernel_rfl)) rfl (by kernel_rfl) (by kernel_rfl)
    (fun ds h => by
      match ds, h with
      | [d1, d2], _ => rfl) JournalTears_open
theorem JournalTears_proved : Rows.JournalTearsSaid :=
  OpenClaim.holds_of_wide 6 Try.f6 rfl rfl rfl rfl rfl rfl rfl ⟨rfl, rfl, rfl, rfl, rfl⟩ rfl rfl rfl rfl rfl (by kernel_rfl) Try.func6 (by kernel_rfl)
    (of_decide_eq_true (by kernel_rfl)) (by unfold Func.isWrapper; first | (rw [if_pos (by decide +kernel)]; kernel_rfl) | (rw [if_neg (by decide +kernel)]; exact ⟨rfl, rfl⟩))
    (fun os started H enc _ => JournalTears_lifted os started H enc)
end Go.Proofs.Ytfbahfibgmdlnaa
