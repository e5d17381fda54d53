/- LexerGaps: for every input the law returns true and each argument reads as it did. Conditions: none. -/
import Derived.Test.YteonolnfgppagaaDoorXL2
import Derived.Test.YteonolnfgppagaaDoorCloseL
import Derived.Test.YteonolnfgppagaaDoorCloseB
namespace Go.Proofs.YteonolnfgppagaaDoor
open Go.ChangeShapes Go.WideShapes Go.ChangeAt Go.RowKit
open Go.ChangeMaps (open_string)
set_option linter.unusedVariables false

theorem LexerGaps_open {H : Type} {enc : TypeId × Value → H} (W : World) (base : Nat) (args : List Value) (ds : List (DataW H)) (p : List MemPlace) (hval : ∀ (j : Nat) t v, Tryd.f4.params.toList[j]? = some t → args[j]? = some v → Value.okWide Tryd.prog W .any base t v)
    (hA : DataW.TrodAll enc Tryd.prog W 0 (fun _ => true) true Tryd.f4.params.toList args ds p) (hG : GV W) : Fn Tryd.prog 4 args W fun v w' => v = .bool true ∧ Ext W w' := by
  rw [Tryd.params4] at hA hval
  obtain ⟨v0, _, d0, _, p0, q0, rfl, rfl, rfl, h0, r0⟩ := trodAll_cons hA
  obtain ⟨v1, _, d1, _, p1, q1, rfl, rfl, rfl, ⟨n1, h1⟩, r1⟩ := trodAll_cons r0
  obtain ⟨rfl, rfl, rfl⟩ := trodAll_nil r1
  obtain ⟨s0, rfl, _, _, _⟩ := open_string Tryd.underlying9 (hval 0 _ v0 rfl rfl) h0
  obtain ⟨u1, l1, e1, b1⟩ := open_bytes Tryd.underlying30 Tryd.underlying5 (by kernel_rfl) h1
  obtain rfl := val_one Tryd.underlying30 (hval 1 _ v1 rfl rfl) e1
  exact lawGaps_ok W s0.data.toList v1 l1 b1 hG

theorem LexerGaps_laidMet (os : Os) : laidMet Tryd.prog laidL ((laidWorld os).forCall (fun _ _ => 0) ⟨#[], #[.string .empty, .slice none 0 0], []⟩).memory := laidMet_of_run' 8 (by kernel_rfl) (by kernel_rfl)
theorem LexerGaps_reads (os : Os) {H : Type} (enc : TypeId × Value → H) : ∃ places, DataW.whole enc Tryd.prog ((laidWorld os).forCall (fun _ _ => 0) ⟨#[], #[.string .empty, .slice none 0 0], []⟩).memory Tryd.f4.params.toList Rows.lexerGapsSpec.vars false #[.string .empty, .slice none 0 0].toList 8 = some ([.lit (.string []), .nil], [], places) := ⟨[], by kernel_rfl⟩
set_option maxRecDepth 100000 in
theorem LexerGaps_lifted (os : Os) (started : os.Started) (H : Type) (enc : TypeId × Value → H) (F : Stop.Interp) :
    ReturnsInHanded {} Tryd.checked os 4 .any ((OpenSpec.ofChange Rows.lexerGapsSpec).preRow enc Tryd.prog Tryd.f4 Rows.lexerGapsRow.domain false Rows.lexerGapsRow.laid) (((OpenSpec.ofChange Rows.lexerGapsSpec).at F).post enc Tryd.prog Tryd.f4 false true false false) := by
  obtain ⟨places, hx⟩ := LexerGaps_reads os enc
  exact law_liftedL started F (by kernel_rfl) Tryd.func4
    (witness_row_at (enc := enc) (C := Tryd.checked) false (laidWorld os) #[.string .empty, .slice none 0 0] rfl (by kernel_rfl) (by kernel_rfl) (by kernel_rfl)
      (OpenSpec.preRow_of_cond 8 hx (by kernel_rfl) (fun k hk => by cases hk) (by kernel_rfl) (LexerGaps_laidMet os))) rfl (by kernel_rfl) (by kernel_rfl)
    (fun ds h => by
      match ds, h with
      | [d1, d2], _ => rfl) LexerGaps_open
theorem LexerGaps_said : Rows.LexerGapsSaid :=
  OpenClaim.holds_of_cond 4 Tryd.f4 rfl rfl rfl rfl rfl rfl rfl ⟨rfl, rfl, rfl, rfl, rfl⟩ rfl rfl rfl rfl rfl (by kernel_rfl) Tryd.func4 (by kernel_rfl)
    (of_decide_eq_true (by kernel_rfl)) (by unfold Func.isWrapper; first | (rw [if_pos (by decide +kernel)]; kernel_rfl) | (rw [if_neg (by decide +kernel)]; exact ⟨rfl, rfl⟩))
    (fun os started H enc _ F => by rw [OpenClaim.pre_eq_preRow]; exact LexerGaps_lifted os started H enc F)
theorem LexerGaps_plain (f : FuncId) (fn : Func) (hf : Tryd.pinned.checked.prog.funcNamed "foresight/foresightlaw04.LexerGaps" = some f) (hfn : Tryd.pinned.checked.prog.funcs[f]? = some fn) :
    true = Tryd.pinned.checked.prog.looks [] ∧ ∀ (j : Nat) t, fn.params[j]? = some t → Tryd.pinned.checked.prog.wantsStandIn t = false := by
  obtain rfl : f = 4 := Option.some.inj ((show Tryd.prog.funcNamed "foresight/foresightlaw04.LexerGaps" = some 4 by kernel_rfl).symm.trans hf) |>.symm
  obtain rfl : fn = Tryd.f4 := (Option.some.inj (Tryd.func4.symm.trans hfn)).symm
  refine ⟨by kernel_rfl, fun j t ht => ?_⟩
  have hall : (Tryd.f4.params.toList.all fun t => !Tryd.prog.wantsStandIn t) = true := by kernel_rfl
  have := List.all_eq_true.1 hall t (by simpa using Array.mem_of_getElem? ht)
  exact Bool.not_eq_true' _ |>.mp this
theorem LexerGaps_proved : Rows.LexerGapsCardSaid :=
  Claim7.holds_tied_plain_at .later [] _ _ _ _ LexerGaps_said (fun _ h => by cases h) (by kernel_rfl) (fun _ h => by cases h) lexerGaps_row_tie rfl ⟨rfl, rfl⟩ (by kernel_rfl) rfl LexerGaps_plain (by kernel_rfl)
end Go.Proofs.YteonolnfgppagaaDoor
