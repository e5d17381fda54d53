/- JournalDamage: for every input the law returns true and each argument reads as it did. Conditions: none. -/
import Derived.Test.YtfbahfibgmdlnaaL6
namespace Go.Proofs.Ytfbahfibgmdlnaa
open Go.ChangeShapes Go.WideShapes Go.ChangeAt Go.RowKit
set_option linter.unusedVariables false


theorem JournalDamage_open {H : Type} {enc : TypeId × Value → H} (W : World) (base : Nat) (args : List Value) (ds : List (DataW H)) (p : List MemPlace) (hval : ∀ (j : Nat) t v, Try.f8.params.toList[j]? = some t → args[j]? = some v → Value.okWide Try.prog W .any base t v)
    (hA : DataW.TrodAll enc Try.prog W 0 (fun _ => true) true Try.f8.params.toList args ds p) : Fn Try.prog 8 args W fun v w' => v = .bool true ∧ Ext W w' := by
  rw [Try.params8] at hA hval
  obtain ⟨v0, _, d0, _, p0, q0, rfl, rfl, rfl, ⟨n0, h0⟩, r0⟩ := trodAll_cons hA
  obtain ⟨v1, _, d1, _, p1, q1, rfl, rfl, rfl, ⟨n1, h1⟩, r1⟩ := trodAll_cons r0
  obtain ⟨v2, _, d2, _, p2, q2, rfl, rfl, rfl, ⟨n2, h2⟩, r2⟩ := trodAll_cons r1
  obtain ⟨v3, _, d3, _, p3, q3, rfl, rfl, rfl, ⟨n3, h3⟩, r3⟩ := trodAll_cons r2
  obtain ⟨rfl, rfl, rfl⟩ := trodAll_nil r3
  obtain ⟨u0, ls0, e0, b0⟩ := open_LB Try.underlying31 Try.underlying24 Try.underlying5 (by kernel_rfl) (by kernel_rfl) h0
  obtain rfl := val_one Try.underlying31 (hval 0 _ v0 rfl rfl) e0
  obtain ⟨c1, rfl, _, _, w1⟩ := open_int Try.underlying5 (hval 1 _ v1 rfl rfl) ⟨n1, h1⟩
  have hc1 : 0 ≤ c1 ∧ c1 ≤ 255 := by simpa [Lit.wf, IntKind.min, IntKind.max, IntKind.signed, IntKind.bits] using w1
  obtain ⟨c2, rfl, _, _, w2⟩ := open_int Try.underlying40 (hval 2 _ v2 rfl rfl) ⟨n2, h2⟩
  have hc2 : 0 ≤ c2 ∧ c2 ≤ 65535 := by simpa [Lit.wf, IntKind.min, IntKind.max, IntKind.signed, IntKind.bits] using w2
  obtain ⟨c3, rfl, _, _, w3⟩ := open_int Try.underlying5 (hval 3 _ v3 rfl rfl) ⟨n3, h3⟩
  have hc3 : 0 ≤ c3 ∧ c3 ≤ 255 := by simpa [Lit.wf, IntKind.min, IntKind.max, IntKind.signed, IntKind.bits] using w3
  obtain ⟨c, rfl⟩ : ∃ c : UInt8, c3 = (c.toNat : Int) := ⟨UInt8.ofNat c3.toNat, by rw [UInt8.toNat_ofNat']; omega⟩
  exact Damage_law v0 ls0 c1 c2 c W b0 hc1.1 hc1.2 hc2.1 hc2.2

set_option maxRecDepth 100000 in
theorem JournalDamage_lifted (os : Os) (started : os.Started) (H : Type) (enc : TypeId × Value → H) :
    ReturnsInHanded {} Try.checked os 8 .any (Rows.journalDamageSpec.pre6 enc Try.prog Try.f8 Rows.journalDamageRow.domain false) (Rows.journalDamageSpec.post enc Try.prog Try.f8 false true false false) :=
  law_lifted started (by kernel_rfl) Try.func8
    (ChangeSpec.witness6 (enc := enc) (C := Try.checked) false ⟨#[], #[.slice none 0 0, .int .u8 0, .int .u16 0, .int .u8 0], []⟩ 8 (by kernel_rfl) (by kernel_rfl) (by kernel_rfl) (by kernel_rfl)) rfl (by kernel_rfl) (by kernel_rfl)
    (fun ds h => by
      match ds, h with
      | [d1, d2, d3, d4], _ => rfl) JournalDamage_open
theorem JournalDamage_proved : Rows.JournalDamageSaid :=
  OpenClaim.holds_of_wide 8 Try.f8 rfl rfl rfl rfl rfl rfl rfl ⟨rfl, rfl, rfl, rfl, rfl⟩ rfl rfl rfl rfl rfl (by kernel_rfl) Try.func8 (by kernel_rfl)
    (of_decide_eq_true (by kernel_rfl)) (by unfold Func.isWrapper; first | (rw [if_pos (by decide +kernel)]; kernel_rfl) | (rw [if_neg (by decide +kernel)]; exact ⟨rfl, rfl⟩))
    (fun os started H enc _ => JournalDamage_lifted os started H enc)
end Go.Proofs.Ytfbahfibgmdlnaa
