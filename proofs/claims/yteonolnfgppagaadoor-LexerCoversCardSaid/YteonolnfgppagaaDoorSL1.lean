/- LexerCovers: for every input the law returns true and each argument reads as it did. Conditions: none. -/
import Derived.Test.YteonolnfgppagaaDoorXL1
import Derived.Test.YteonolnfgppagaaDoorCloseL
namespace Go.Proofs.YteonolnfgppagaaDoor
open Go.ChangeShapes Go.WideShapes Go.ChangeAt Go.RowKit
open Go.ChangeMaps (open_string)
set_option linter.unusedVariables false

theorem LexerCovers_open {H : Type} {enc : TypeId × Value → H} (W : World) (base : Nat) (args : List Value) (ds : List (DataW H)) (p : List MemPlace) (hval : ∀ (j : Nat) t v, Tryd.f3.params.toList[j]? = some t → args[j]? = some v → Value.okWide Tryd.prog W .any base t v)
    (hA : DataW.TrodAll enc Tryd.prog W 0 (fun _ => true) true Tryd.f3.params.toList args ds p) (hG : GV W) : Fn Tryd.prog 3 args W fun v w' => v = .bool true ∧ Ext W w' := by
  rw [Tryd.params3] at hA hval
  obtain ⟨v0, _, d0, _, p0, q0, rfl, rfl, rfl, h0, r0⟩ := trodAll_cons hA
  obtain ⟨rfl, rfl, rfl⟩ := trodAll_nil r0
  obtain ⟨s0, rfl, _, _, _⟩ := open_string Tryd.underlying9 (hval 0 _ v0 rfl rfl) h0
  exact covers_ok W s0.data.toList hG

theorem LexerCovers_laidMet (os : Os) : laidMet Tryd.prog laidL ((laidWorld os).forCall (fun _ _ => 0) ⟨#[], #[.string .empty], []⟩).memory := laidMet_of_run' 8 (by kernel_rfl) (by kernel_rfl)
theorem LexerCovers_reads (os : Os) {H : Type} (enc : TypeId × Value → H) : ∃ places, DataW.whole enc Tryd.prog ((laidWorld os).forCall (fun _ _ => 0) ⟨#[], #[.string .empty], []⟩).memory Tryd.f3.params.toList Rows.lexerCoversSpec.vars false #[.string .empty].toList 8 = some ([.lit (.string [])], [], places) := ⟨[], by kernel_rfl⟩
set_option maxRecDepth 100000 in
theorem LexerCovers_lifted (os : Os) (started : os.Started) (H : Type) (enc : TypeId × Value → H) (F : Stop.Interp) :
    ReturnsInHanded {} Tryd.checked os 3 .any ((OpenSpec.ofChange Rows.lexerCoversSpec).preRow enc Tryd.prog Tryd.f3 Rows.lexerCoversRow.domain false Rows.lexerCoversRow.laid) (((OpenSpec.ofChange Rows.lexerCoversSpec).at F).post enc Tryd.prog Tryd.f3 false true false false) := by
  obtain ⟨places, hx⟩ := LexerCovers_reads os enc
  exact law_liftedL started F (by kernel_rfl) Tryd.func3
    (witness_row_at (enc := enc) (C := Tryd.checked) false (laidWorld os) #[.string .empty] rfl (by kernel_rfl) (by kernel_rfl) (by kernel_rfl)
      (OpenSpec.preRow_of_cond 8 hx (by kernel_rfl) (fun k hk => by cases hk) (by kernel_rfl) (LexerCovers_laidMet os))) rfl (by kernel_rfl) (by kernel_rfl)
    (fun ds h => by
      match ds, h with
      | [d1], _ => rfl) LexerCovers_open
theorem LexerCovers_said : Rows.LexerCoversSaid :=
  OpenClaim.holds_of_cond 3 Tryd.f3 rfl rfl rfl rfl rfl rfl rfl ⟨rfl, rfl, rfl, rfl, rfl⟩ rfl rfl rfl rfl rfl (by kernel_rfl) Tryd.func3 (by kernel_rfl)
    (of_decide_eq_true (by kernel_rfl)) (by unfold Func.isWrapper; first | (rw [if_pos (by decide +kernel)]; kernel_rfl) | (rw [if_neg (by decide +kernel)]; exact ⟨rfl, rfl⟩))
    (fun os started H enc _ F => by rw [OpenClaim.pre_eq_preRow]; exact LexerCovers_lifted os started H enc F)
theorem LexerCovers_plain (f : FuncId) (fn : Func) (hf : Tryd.pinned.checked.prog.funcNamed "foresight/foresightlaw04.LexerCovers" = some f) (hfn : Tryd.pinned.checked.prog.funcs[f]? = some fn) :
    true = Tryd.pinned.checked.prog.looks [] ∧ ∀ (j : Nat) t, fn.params[j]? = some t → Tryd.pinned.checked.prog.wantsStandIn t = false := by
  obtain rfl : f = 3 := Option.some.inj ((show Tryd.prog.funcNamed "foresight/foresightlaw04.LexerCovers" = some 3 by kernel_rfl).symm.trans hf) |>.symm
  obtain rfl : fn = Tryd.f3 := (Option.some.inj (Tryd.func3.symm.trans hfn)).symm
  refine ⟨by kernel_rfl, fun j t ht => ?_⟩
  have hall : (Tryd.f3.params.toList.all fun t => !Tryd.prog.wantsStandIn t) = true := by kernel_rfl
  have := List.all_eq_true.1 hall t (by simpa using Array.mem_of_getElem? ht)
  exact Bool.not_eq_true' _ |>.mp this
theorem LexerCovers_proved : Rows.LexerCoversCardSaid :=
  Claim7.holds_tied_plain_at .later [] _ _ _ _ LexerCovers_said (fun _ h => by cases h) (by kernel_rfl) (fun _ h => by cases h) lexerCovers_row_tie rfl ⟨rfl, rfl⟩ (by kernel_rfl) rfl LexerCovers_plain (by kernel_rfl)
end Go.Proofs.YteonolnfgppagaaDoor
