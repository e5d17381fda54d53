/- JournalMatchesReference: for every input the law returns true and each argument reads as it did. Conditions: none. -/
import Derived.Test.YtfbahfibgmdlnaaL1
namespace Go.Proofs.Ytfbahfibgmdlnaa
open Go.ChangeShapes Go.WideShapes Go.ChangeAt Go.RowKit
set_option linter.unusedVariables false


theorem open_ent {H : Type} {enc : TypeId × Value → H} {W : World} {r : Reach} {base : Nat} {v : Value} {fuel : Nat} {x : DataW H × List MemPlace} {sp : Nat → Bool} {hd : Bool} (hval : Value.okWide Try.prog W r base 23 v)
    (h : DataW.trod enc Try.prog W 0 sp hd fuel 23 v.cells.toList = some x) : ∃ e, v = entV e := by
  obtain ⟨cs, rfl, hsz⟩ := okWide_struct Try.underlying23 hval
  have hc : Try.prog.cellsOf 23 = 3 := by kernel_rfl
  have hi : Try.prog.cellsOf 3 = 1 := by kernel_rfl
  have hs : Try.prog.cellsOf 9 = 1 := by kernel_rfl
  obtain ⟨xs, n, rfl, rfl, _, hxl, hf⟩ := DataW.trod_struct Try.underlying23 h
  rw [hc] at hsz
  obtain ⟨c0, c1, c2, rfl⟩ : ∃ c0 c1 c2, cs = #[c0, c1, c2] := by
    obtain ⟨l⟩ := cs
    match l, hsz with
    | [a, b, c], _ => exact ⟨a, b, c, rfl⟩
  simp only [Value.cells] at hf
  have f0 : DataW.trod enc Try.prog W 0 sp hd n 3 ((List.drop 0 [c0, c1, c2]).take (Try.prog.cellsOf 3)) = xs[0]? := hf 0 _ rfl
  have f1 : DataW.trod enc Try.prog W 0 sp hd n 3 ((List.drop 1 [c0, c1, c2]).take (Try.prog.cellsOf 3)) = xs[1]? := hf 1 _ rfl
  have f2 : DataW.trod enc Try.prog W 0 sp hd n 9 ((List.drop 2 [c0, c1, c2]).take (Try.prog.cellsOf 9)) = xs[2]? := hf 2 _ rfl
  have hx3 : xs.length = 3 := hxl
  rw [hi] at f0 f1
  rw [hs] at f2
  have g0 : xs[0]? = some xs[0] := List.getElem?_eq_getElem (by omega)
  have g1 : xs[1]? = some xs[1] := List.getElem?_eq_getElem (by omega)
  have g2 : xs[2]? = some xs[2] := List.getElem?_eq_getElem (by omega)
  obtain ⟨a, ha, _⟩ := DataW.trod_int Try.underlying3 (f0.trans g0)
  obtain ⟨b, hb, _⟩ := DataW.trod_int Try.underlying3 (f1.trans g1)
  obtain ⟨s, hs', _⟩ := DataW.trod_string Try.underlying9 (f2.trans g2)
  refine ⟨⟨a, b, s.data.toList⟩, ?_⟩
  have e0 : c0 = .int .i64 a := by simpa using ha
  have e1 : c1 = .int .i64 b := by simpa using hb
  have e2 : c2 = .string s := by simpa using hs'
  rw [e0, e1, e2]
  rfl

theorem JournalMatchesReference_open {H : Type} {enc : TypeId × Value → H} (W : World) (base : Nat) (args : List Value) (ds : List (DataW H)) (p : List MemPlace) (hval : ∀ (j : Nat) t v, Try.f3.params.toList[j]? = some t → args[j]? = some v → Value.okWide Try.prog W .any base t v)
    (hA : DataW.TrodAll enc Try.prog W 0 (fun _ => true) true Try.f3.params.toList args ds p) : Fn Try.prog 3 args W fun v w' => v = .bool true ∧ Ext W w' := by
  rw [Try.params3] at hA hval
  obtain ⟨v0, _, d0, _, p0, q0, rfl, rfl, rfl, ⟨n0, h0⟩, r0⟩ := trodAll_cons hA
  obtain ⟨v1, _, d1, _, p1, q1, rfl, rfl, rfl, ⟨n1, h1⟩, r1⟩ := trodAll_cons r0
  obtain ⟨v2, _, d2, _, p2, q2, rfl, rfl, rfl, ⟨n2, h2⟩, r2⟩ := trodAll_cons r1
  obtain ⟨rfl, rfl, rfl⟩ := trodAll_nil r2
  obtain ⟨en0, rfl⟩ := open_ent (hval 0 _ v0 rfl rfl) h0
  obtain ⟨u1, l1, e1, b1⟩ := open_bytes Try.underlying24 Try.underlying5 (by kernel_rfl) h1
  obtain rfl := val_one Try.underlying24 (hval 1 _ v1 rfl rfl) e1
  obtain ⟨u2, l2, e2, b2⟩ := open_bytes Try.underlying24 Try.underlying5 (by kernel_rfl) h2
  obtain rfl := val_one Try.underlying24 (hval 2 _ v2 rfl rfl) e2
  exact Matches_law en0 v1 v2 l1 l2 W b1 b2

set_option maxRecDepth 100000 in
theorem JournalMatchesReference_lifted (os : Os) (started : os.Started) (H : Type) (enc : TypeId × Value → H) :
    ReturnsInHanded {} Try.checked os 3 .any (Rows.journalMatchesReferenceSpec.pre6 enc Try.prog Try.f3 Rows.journalMatchesReferenceRow.domain false) (Rows.journalMatchesReferenceSpec.post enc Try.prog Try.f3 false true false false) :=
  law_lifted started (by kernel_rfl) Try.func3
    (ChangeSpec.witness6 (enc := enc) (C := Try.checked) false ⟨#[], #[.agg #[.int .i64 0, .int .i64 0, .string .empty], .slice none 0 0, .slice none 0 0], []⟩ 8 (by kernel_rfl) (by kernel_rfl) (by kernel_rfl) (by kernel_rfl)) rfl (by kernel_rfl) (by kernel_rfl)
    (fun ds h => by
      match ds, h with
      | [d1, d2, d3], _ => rfl) JournalMatchesReference_open
theorem JournalMatchesReference_proved : Rows.JournalMatchesReferenceSaid :=
  OpenClaim.holds_of_wide 3 Try.f3 rfl rfl rfl rfl rfl rfl rfl ⟨rfl, rfl, rfl, rfl, rfl⟩ rfl rfl rfl rfl rfl (by kernel_rfl) Try.func3 (by kernel_rfl)
    (of_decide_eq_true (by kernel_rfl)) (by unfold Func.isWrapper; first | (rw [if_pos (by decide +kernel)]; kernel_rfl) | (rw [if_neg (by decide +kernel)]; exact ⟨rfl, rfl⟩))
    (fun os started H enc _ => JournalMatchesReference_lifted os started H enc)
end Go.Proofs.Ytfbahfibgmdlnaa
