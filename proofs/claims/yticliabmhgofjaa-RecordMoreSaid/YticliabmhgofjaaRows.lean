/-
  No cell of these rows narrows 'for every input' (looked for: loops, veiled, ifaces, maps, wideKeys, modest, calm, conditions, laid).
  DERIVED. THE GIVEN ROWS OF THIS SEAT. 6 by the template 'for every input the law returns true; each argument reads behind the call as it read before'; 0 by the template 'total and deterministic' (their statements: YticliabmhgofjaaTotals.lean).
  GIVEN WITH THE SEED: the statements are not yours to turn. If you find one false, say at which input.
  Laid BY PROGRAM, IN A SANDBOX (cutbox-rows.mjs): the forced cells as the released guide's own fill.sh prints them over the translation 254ace7a2b2c9381… (all of the seat's roots in one cut). By AI agents, Wed Nov 11 2026. No macro, syntax, notation, axiom, sorry.
-/
import Derived.Test.YticliabmhgofjaaChecked
import GoSem.Claim
import GoSem.ClaimJoined
import GoSem.ClaimMapViews
import Derived.JoinedTies
import Derived.KernelRfl
namespace Go.Proofs.Yticliabmhgofjaa
/- THE CELL 'sum', in the pinned program and in every row, IS THE sha256 OF THE DUMP (.gsa) THAT YticliabmhgofjaaProg.lean LOADS. Nothing in Lean hashes anything: it is a label: what it is worth is what the hold of that sum in a sandbox is worth. -/
noncomputable def Try.pinned : Pinned := { name := "yticliabmhgofjaa", sum := "254ace7a2b2c938169e2659c0f846d6275253427789ccba76e4625a36832735c", checked := Try.checked }
namespace Rows
def none {H : Type} : Left H := { results := [], args := [] }

/-- 'foresightlaw17.RecordMatchesReference': WHATEVER THE INPUT: true; the input reads as it did. -/
def recordMatchesReferenceSpec : ChangeSpec := { name := "recordMatchesReference", fn := fun _ => fun
  | [d1, d2, d3, d4, d5] => { results := [.lit (.bool true)], args := [d1, d2, d3, d4, d5] }
  | _ => none }
def recordMatchesReferenceRow : OpenClaim := { program := "yticliabmhgofjaa", sum := "254ace7a2b2c938169e2659c0f846d6275253427789ccba76e4625a36832735c", func := "foresight/foresightlaw17.RecordMatchesReference", spec := "recordMatchesReference", unfollowed := true, recurses := true, apart := false }
def RecordMatchesReferenceSaid : Prop := recordMatchesReferenceRow.holds Try.pinned (OpenSpec.ofChange recordMatchesReferenceSpec)

/-- ITS FALSE NEIGHBOUR: 'it returns false'. Refute it at one input. -/
def recordMatchesReferenceWrong : ChangeSpec := { name := "recordMatchesReference", fn := fun _ => fun
  | [d1, d2, d3, d4, d5] => { results := [.lit (.bool false)], args := [d1, d2, d3, d4, d5] }
  | _ => none }
def RecordMatchesReferenceWrongFalsely : Prop := recordMatchesReferenceRow.holds Try.pinned (OpenSpec.ofChange recordMatchesReferenceWrong)

/-- 'foresightlaw17.RecordStep': WHATEVER THE INPUT: true; the input reads as it did. -/
def recordStepSpec : ChangeSpec := { name := "recordStep", fn := fun _ => fun
  | [d1, d2, d3, d4] => { results := [.lit (.bool true)], args := [d1, d2, d3, d4] }
  | _ => none }
def recordStepRow : OpenClaim := { program := "yticliabmhgofjaa", sum := "254ace7a2b2c938169e2659c0f846d6275253427789ccba76e4625a36832735c", func := "foresight/foresightlaw17.RecordStep", spec := "recordStep", unfollowed := true, recurses := true, apart := false }
def RecordStepSaid : Prop := recordStepRow.holds Try.pinned (OpenSpec.ofChange recordStepSpec)

/-- ITS FALSE NEIGHBOUR: 'it returns false'. Refute it at one input. -/
def recordStepWrong : ChangeSpec := { name := "recordStep", fn := fun _ => fun
  | [d1, d2, d3, d4] => { results := [.lit (.bool false)], args := [d1, d2, d3, d4] }
  | _ => none }
def RecordStepWrongFalsely : Prop := recordStepRow.holds Try.pinned (OpenSpec.ofChange recordStepWrong)

/-- 'foresightlaw17.RecordPriority': WHATEVER THE INPUT: true; the input reads as it did. -/
def recordPrioritySpec : ChangeSpec := { name := "recordPriority", fn := fun _ => fun
  | [d1, d2] => { results := [.lit (.bool true)], args := [d1, d2] }
  | _ => none }
def recordPriorityRow : OpenClaim := { program := "yticliabmhgofjaa", sum := "254ace7a2b2c938169e2659c0f846d6275253427789ccba76e4625a36832735c", func := "foresight/foresightlaw17.RecordPriority", spec := "recordPriority", unfollowed := true, recurses := true, apart := false }
def RecordPrioritySaid : Prop := recordPriorityRow.holds Try.pinned (OpenSpec.ofChange recordPrioritySpec)

/-- ITS FALSE NEIGHBOUR: 'it returns false'. Refute it at one input. -/
def recordPriorityWrong : ChangeSpec := { name := "recordPriority", fn := fun _ => fun
  | [d1, d2] => { results := [.lit (.bool false)], args := [d1, d2] }
  | _ => none }
def RecordPriorityWrongFalsely : Prop := recordPriorityRow.holds Try.pinned (OpenSpec.ofChange recordPriorityWrong)

/-- 'foresightlaw17.RecordWins': WHATEVER THE INPUT: true; the input reads as it did. -/
def recordWinsSpec : ChangeSpec := { name := "recordWins", fn := fun _ => fun
  | [d1, d2, d3] => { results := [.lit (.bool true)], args := [d1, d2, d3] }
  | _ => none }
def recordWinsRow : OpenClaim := { program := "yticliabmhgofjaa", sum := "254ace7a2b2c938169e2659c0f846d6275253427789ccba76e4625a36832735c", func := "foresight/foresightlaw17.RecordWins", spec := "recordWins", unfollowed := true, recurses := true, apart := false }
def RecordWinsSaid : Prop := recordWinsRow.holds Try.pinned (OpenSpec.ofChange recordWinsSpec)

/-- ITS FALSE NEIGHBOUR: 'it returns false'. Refute it at one input. -/
def recordWinsWrong : ChangeSpec := { name := "recordWins", fn := fun _ => fun
  | [d1, d2, d3] => { results := [.lit (.bool false)], args := [d1, d2, d3] }
  | _ => none }
def RecordWinsWrongFalsely : Prop := recordWinsRow.holds Try.pinned (OpenSpec.ofChange recordWinsWrong)

/-- 'foresightlaw17.RecordMore': WHATEVER THE INPUT: true; the input reads as it did. -/
def recordMoreSpec : ChangeSpec := { name := "recordMore", fn := fun _ => fun
  | [d1, d2] => { results := [.lit (.bool true)], args := [d1, d2] }
  | _ => none }
def recordMoreRow : OpenClaim := { program := "yticliabmhgofjaa", sum := "254ace7a2b2c938169e2659c0f846d6275253427789ccba76e4625a36832735c", func := "foresight/foresightlaw17.RecordMore", spec := "recordMore", unfollowed := true, recurses := true, apart := false }
def RecordMoreSaid : Prop := recordMoreRow.holds Try.pinned (OpenSpec.ofChange recordMoreSpec)

/-- ITS FALSE NEIGHBOUR: 'it returns false'. Refute it at one input. -/
def recordMoreWrong : ChangeSpec := { name := "recordMore", fn := fun _ => fun
  | [d1, d2] => { results := [.lit (.bool false)], args := [d1, d2] }
  | _ => none }
def RecordMoreWrongFalsely : Prop := recordMoreRow.holds Try.pinned (OpenSpec.ofChange recordMoreWrong)

/-- 'foresightlaw17.RecordRenames': WHATEVER THE INPUT: true; the input reads as it did. -/
def recordRenamesSpec : ChangeSpec := { name := "recordRenames", fn := fun _ => fun
  | [d1, d2, d3, d4] => { results := [.lit (.bool true)], args := [d1, d2, d3, d4] }
  | _ => none }
def recordRenamesRow : OpenClaim := { program := "yticliabmhgofjaa", sum := "254ace7a2b2c938169e2659c0f846d6275253427789ccba76e4625a36832735c", func := "foresight/foresightlaw17.RecordRenames", spec := "recordRenames", unfollowed := true, recurses := true, apart := false }
def RecordRenamesSaid : Prop := recordRenamesRow.holds Try.pinned (OpenSpec.ofChange recordRenamesSpec)

/-- ITS FALSE NEIGHBOUR: 'it returns false'. Refute it at one input. -/
def recordRenamesWrong : ChangeSpec := { name := "recordRenames", fn := fun _ => fun
  | [d1, d2, d3, d4] => { results := [.lit (.bool false)], args := [d1, d2, d3, d4] }
  | _ => none }
def RecordRenamesWrongFalsely : Prop := recordRenamesRow.holds Try.pinned (OpenSpec.ofChange recordRenamesWrong)

/- THE SECOND FORM. 'bulk': how many values and letters a reading holds, each counted each time it is reached (what is shared counts as often as it is met; a slice's spare places count too). A statement '..UptoSaid' is the law's where the arguments, and the package variables that the reading takes, are together of bulk at most 1048576: NARROWER than '..Said'. Prove '..Said' where nothing that the law and all that it calls make is longer than what came in: it says more and counts as full. Else prove '..UptoSaid'. A law counts once. -/
mutual
def uptoBulk {H : Type} : DataW H → Nat
  | .lit (.string bytes) => bytes.length + 1
  | .lit _ => 1
  | .nil => 1
  | .ptr d => uptoBulk d + 1
  | .slice elems spare => uptoBulkAll elems + uptoBulkAll spare + 1
  | .agg parts => uptoBulkAll parts + 1
  | .iface _ d => uptoBulk d + 1
  | .map entries => uptoBulkEntries entries + 1
  | .held _ => 1
def uptoBulkAll {H : Type} : List (DataW H) → Nat
  | [] => 0
  | d :: r => uptoBulk d + uptoBulkAll r
def uptoBulkEntries {H : Type} : List (Lit × DataW H) → Nat
  | [] => 0
  | x :: r => uptoBulkEntry x + uptoBulkEntries r
def uptoBulkEntry {H : Type} : Lit × DataW H → Nat
  | (.string bytes, d) => bytes.length + uptoBulk d + 1
  | (_, d) => uptoBulk d + 1
 end
def uptoSmall : (H : Type) → List (DataW H) → Bool := fun _ ds => decide (uptoBulkAll ds ≤ 1048576)
def OpenSpec.upto (s : _root_.Go.ChangeSpec) : _root_.Go.OpenSpec := { _root_.Go.OpenSpec.ofChange s with cond := some uptoSmall }

/-- 'foresightlaw17.RecordMatchesReference', WHERE WHAT IT READS IS OF BULK AT MOST 1048576: true; the input reads as it did. -/
def recordMatchesReferenceUptoRow : OpenClaim := { program := "yticliabmhgofjaa", sum := "254ace7a2b2c938169e2659c0f846d6275253427789ccba76e4625a36832735c", func := "foresight/foresightlaw17.RecordMatchesReference", spec := "recordMatchesReference", unfollowed := true, recurses := true, apart := false, narrowed := true }
def RecordMatchesReferenceUptoSaid : Prop := recordMatchesReferenceUptoRow.holds Try.pinned (OpenSpec.upto recordMatchesReferenceSpec)

/-- 'foresightlaw17.RecordStep', WHERE WHAT IT READS IS OF BULK AT MOST 1048576: true; the input reads as it did. -/
def recordStepUptoRow : OpenClaim := { program := "yticliabmhgofjaa", sum := "254ace7a2b2c938169e2659c0f846d6275253427789ccba76e4625a36832735c", func := "foresight/foresightlaw17.RecordStep", spec := "recordStep", unfollowed := true, recurses := true, apart := false, narrowed := true }
def RecordStepUptoSaid : Prop := recordStepUptoRow.holds Try.pinned (OpenSpec.upto recordStepSpec)

/-- 'foresightlaw17.RecordPriority', WHERE WHAT IT READS IS OF BULK AT MOST 1048576: true; the input reads as it did. -/
def recordPriorityUptoRow : OpenClaim := { program := "yticliabmhgofjaa", sum := "254ace7a2b2c938169e2659c0f846d6275253427789ccba76e4625a36832735c", func := "foresight/foresightlaw17.RecordPriority", spec := "recordPriority", unfollowed := true, recurses := true, apart := false, narrowed := true }
def RecordPriorityUptoSaid : Prop := recordPriorityUptoRow.holds Try.pinned (OpenSpec.upto recordPrioritySpec)

/-- 'foresightlaw17.RecordWins', WHERE WHAT IT READS IS OF BULK AT MOST 1048576: true; the input reads as it did. -/
def recordWinsUptoRow : OpenClaim := { program := "yticliabmhgofjaa", sum := "254ace7a2b2c938169e2659c0f846d6275253427789ccba76e4625a36832735c", func := "foresight/foresightlaw17.RecordWins", spec := "recordWins", unfollowed := true, recurses := true, apart := false, narrowed := true }
def RecordWinsUptoSaid : Prop := recordWinsUptoRow.holds Try.pinned (OpenSpec.upto recordWinsSpec)

/-- 'foresightlaw17.RecordMore', WHERE WHAT IT READS IS OF BULK AT MOST 1048576: true; the input reads as it did. -/
def recordMoreUptoRow : OpenClaim := { program := "yticliabmhgofjaa", sum := "254ace7a2b2c938169e2659c0f846d6275253427789ccba76e4625a36832735c", func := "foresight/foresightlaw17.RecordMore", spec := "recordMore", unfollowed := true, recurses := true, apart := false, narrowed := true }
def RecordMoreUptoSaid : Prop := recordMoreUptoRow.holds Try.pinned (OpenSpec.upto recordMoreSpec)

/-- 'foresightlaw17.RecordRenames', WHERE WHAT IT READS IS OF BULK AT MOST 1048576: true; the input reads as it did. -/
def recordRenamesUptoRow : OpenClaim := { program := "yticliabmhgofjaa", sum := "254ace7a2b2c938169e2659c0f846d6275253427789ccba76e4625a36832735c", func := "foresight/foresightlaw17.RecordRenames", spec := "recordRenames", unfollowed := true, recurses := true, apart := false, narrowed := true }
def RecordRenamesUptoSaid : Prop := recordRenamesUptoRow.holds Try.pinned (OpenSpec.upto recordRenamesSpec)

end Rows
end Go.Proofs.Yticliabmhgofjaa
