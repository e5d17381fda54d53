/- LexerErrors: for every input the law returns true and each argument reads as it did. Conditions: none. -/
import Derived.Test.YteonolnfgppagaaDoorXL4
import Derived.Test.YteonolnfgppagaaDoorCloseL
namespace Go.Proofs.YteonolnfgppagaaDoor
open Go.ChangeShapes Go.WideShapes Go.ChangeAt Go.RowKit
open Go.ChangeMaps (open_string)
set_option linter.unusedVariables false

theorem LexerErrors_open {H : Type} {enc : TypeId × Value → H} (W : World) (base : Nat) (args : List Value) (ds : List (DataW H)) (p : List MemPlace) (hval : ∀ (j : Nat) t v, Tryd.f6.params.toList[j]? = some t → args[j]? = some v → Value.okWide Tryd.prog W .any base t v)
    (hA : DataW.TrodAll enc Tryd.prog W 0 (fun _ => true) true Tryd.f6.params.toList args ds p) (hG : GV W) : Fn Tryd.prog 6 args W fun v w' => v = .bool true ∧ Ext W w' := by
  rw [Tryd.params6] at hA hval
  obtain ⟨v0, _, d0, _, p0, q0, rfl, rfl, rfl, h0, r0⟩ := trodAll_cons hA
  obtain ⟨v1, _, d1, _, p1, q1, rfl, rfl, rfl, ⟨n1, h1⟩, r1⟩ := trodAll_cons r0
  obtain ⟨rfl, rfl, rfl⟩ := trodAll_nil r1
  obtain ⟨s0, rfl, _, _, _⟩ := open_string Tryd.underlying9 (hval 0 _ v0 rfl rfl) h0
  obtain ⟨c1, rfl, _, _, w1⟩ := open_int Tryd.underlying5 (hval 1 _ v1 rfl rfl) ⟨n1, h1⟩
  have hb : 0 ≤ c1 ∧ c1 ≤ 255 := by simpa [Lit.wf, IntKind.min, IntKind.max, IntKind.signed, IntKind.bits] using w1
  obtain ⟨r, rfl⟩ : ∃ r : Nat, c1 = (r : Int) := ⟨c1.toNat, by omega⟩
  exact errors_ok W s0.data.toList r (by omega) hG

theorem LexerErrors_laidMet (os : Os) : laidMet Tryd.prog laidL ((laidWorld os).forCall (fun _ _ => 0) ⟨#[], #[.string .empty, .int .u8 0], []⟩).memory := laidMet_of_run' 8 (by kernel_rfl) (by kernel_rfl)
theorem LexerErrors_reads (os : Os) {H : Type} (enc : TypeId × Value → H) : ∃ places, DataW.whole enc Tryd.prog ((laidWorld os).forCall (fun _ _ => 0) ⟨#[], #[.string .empty, .int .u8 0], []⟩).memory Tryd.f6.params.toList Rows.lexerErrorsSpec.vars false #[.string .empty, .int .u8 0].toList 8 = some ([.lit (.string []), .lit (.int .u8 0)], [], places) := ⟨[], by kernel_rfl⟩
set_option maxRecDepth 100000 in
theorem LexerErrors_lifted (os : Os) (started : os.Started) (H : Type) (enc : TypeId × Value → H) (F : Stop.Interp) :
    ReturnsInHanded {} Tryd.checked os 6 .any ((OpenSpec.ofChange Rows.lexerErrorsSpec).preRow enc Tryd.prog Tryd.f6 Rows.lexerErrorsRow.domain false Rows.lexerErrorsRow.laid) (((OpenSpec.ofChange Rows.lexerErrorsSpec).at F).post enc Tryd.prog Tryd.f6 false true false false) := by
  obtain ⟨places, hx⟩ := LexerErrors_reads os enc
  exact law_liftedL started F (by kernel_rfl) Tryd.func6
    (witness_row_at (enc := enc) (C := Tryd.checked) false (laidWorld os) #[.string .empty, .int .u8 0] rfl (by kernel_rfl) (by kernel_rfl) (by kernel_rfl)
      (OpenSpec.preRow_of_cond 8 hx (by kernel_rfl) (fun k hk => by cases hk) (by kernel_rfl) (LexerErrors_laidMet os))) rfl (by kernel_rfl) (by kernel_rfl)
    (fun ds h => by
      match ds, h with
      | [d1, d2], _ => rfl) LexerErrors_open
theorem LexerErrors_said : Rows.LexerErrorsSaid :=
  OpenClaim.holds_of_cond 6 Tryd.f6 rfl rfl rfl rfl rfl rfl rfl ⟨rfl, rfl, rfl, rfl, rfl⟩ rfl rfl rfl rfl rfl (by kernel_rfl) Tryd.func6 (by kernel_rfl)
    (of_decide_eq_true (by kernel_rfl)) (by unfold Func.isWrapper; first | (rw [if_pos (by decide +kernel)]; kernel_rfl) | (rw [if_neg (by decide +kernel)]; exact ⟨rfl, rfl⟩))
    (fun os started H enc _ F => by rw [OpenClaim.pre_eq_preRow]; exact LexerErrors_lifted os started H enc F)
theorem LexerErrors_plain (f : FuncId) (fn : Func) (hf : Tryd.pinned.checked.prog.funcNamed "foresight/foresightlaw04.LexerErrors" = some f) (hfn : Tryd.pinned.checked.prog.funcs[f]? = some fn) :
    true = Tryd.pinned.checked.prog.looks [] ∧ ∀ (j : Nat) t, fn.params[j]? = some t → Tryd.pinned.checked.prog.wantsStandIn t = false := by
  obtain rfl : f = 6 := Option.some.inj ((show Tryd.prog.funcNamed "foresight/foresightlaw04.LexerErrors" = some 6 by kernel_rfl).symm.trans hf) |>.symm
  obtain rfl : fn = Tryd.f6 := (Option.some.inj (Tryd.func6.symm.trans hfn)).symm
  refine ⟨by kernel_rfl, fun j t ht => ?_⟩
  have hall : (Tryd.f6.params.toList.all fun t => !Tryd.prog.wantsStandIn t) = true := by kernel_rfl
  have := List.all_eq_true.1 hall t (by simpa using Array.mem_of_getElem? ht)
  exact Bool.not_eq_true' _ |>.mp this
theorem LexerErrors_proved : Rows.LexerErrorsCardSaid :=
  Claim7.holds_tied_plain_at .later [] _ _ _ _ LexerErrors_said (fun _ h => by cases h) (by kernel_rfl) (fun _ h => by cases h) lexerErrors_row_tie rfl ⟨rfl, rfl⟩ (by kernel_rfl) rfl LexerErrors_plain (by kernel_rfl)
end Go.Proofs.YteonolnfgppagaaDoor
