/-
  NARROWER THAN 'FOR EVERY INPUT', by the rows' own cells (each row's printed sentence says how): LexerCovers: laid · LexerGaps: laid · LexerConcatenation: laid · LexerErrors: laid · LexerLate: laid.
  DERIVED. THE GIVEN ROWS OF THIS SEAT. 5 by the template 'for every input the law returns true; each argument reads behind the call as it read before'; 0 by the template 'total and deterministic' (their statements: YteonolnfgppagaaDoorTotals.lean).
  GIVEN WITH THE SEED: the statements are not yours to turn. If you find one false, say at which input.
  Laid BY PROGRAM, IN A SANDBOX (cutbox-rows.mjs): the forced cells as the released guide's own fill.sh prints them over the translation 9b88284ea03cd909… (all of the seat's roots in one cut). By AI agents, Wed Nov 11 2026. No macro, syntax, notation, axiom, sorry.
-/
import Derived.Test.YteonolnfgppagaaDoorChecked
import GoSem.Claim
import GoSem.ClaimJoined
import GoSem.ClaimMapViews
import Derived.JoinedTies
import Derived.KernelRfl
namespace Go.Proofs.YteonolnfgppagaaDoor
/- THE CELL 'sum', in the pinned program and in every row, IS THE sha256 OF THE DUMP (.gsa) THAT YteonolnfgppagaaDoorProg.lean LOADS. Nothing in Lean hashes anything: it is a label: what it is worth is what the hold of that sum in a sandbox is worth. -/
noncomputable def Tryd.pinned : Pinned := { name := "yteonolnfgppagaadoor", sum := "9b88284ea03cd90969cc843396ea477f9e8d376a0d12eed7db2b85fc619c393c", checked := Tryd.checked }
namespace Rows
def none {H : Type} : Left H := { results := [], args := [] }

/- WHAT THE LISTED PACKAGE-LEVEL VARIABLES READ AS WHEN THE CALL BEGINS. Each datum BY PROGRAM (the guide's laid-datum.mjs) off the statement by which the dump's own 'gosem.cut.vars' lays the variable. In a bare row this is a premise. The card (YteonolnfgppagaaDoorCards.lean) ties it to the program's text. -/
def laid_foresight_lexer_spans {H : Type} : DataW H := .agg [.agg [.lit (.int .u8 32), .lit (.int .u8 32), .lit (.int .i64 0)], .agg [.lit (.int .u8 9), .lit (.int .u8 10), .lit (.int .i64 0)], .agg [.lit (.int .u8 13), .lit (.int .u8 13), .lit (.int .i64 0)], .agg [.lit (.int .u8 37), .lit (.int .u8 37), .lit (.int .i64 1)], .agg [.lit (.int .u8 97), .lit (.int .u8 122), .lit (.int .i64 2)], .agg [.lit (.int .u8 65), .lit (.int .u8 90), .lit (.int .i64 2)], .agg [.lit (.int .u8 48), .lit (.int .u8 57), .lit (.int .i64 3)], .agg [.lit (.int .u8 40), .lit (.int .u8 41), .lit (.int .i64 4)], .agg [.lit (.int .u8 123), .lit (.int .u8 125), .lit (.int .i64 4)], .agg [.lit (.int .u8 91), .lit (.int .u8 91), .lit (.int .i64 4)], .agg [.lit (.int .u8 93), .lit (.int .u8 93), .lit (.int .i64 4)], .agg [.lit (.int .u8 44), .lit (.int .u8 45), .lit (.int .i64 4)], .agg [.lit (.int .u8 58), .lit (.int .u8 59), .lit (.int .i64 4)], .agg [.lit (.int .u8 61), .lit (.int .u8 61), .lit (.int .i64 4)], .agg [.lit (.int .u8 33), .lit (.int .u8 33), .lit (.int .i64 4)], .agg [.lit (.int .u8 38), .lit (.int .u8 38), .lit (.int .i64 4)]]
def laid_foresight_lexer_symbols {H : Type} : DataW H := .agg [.lit (.string [45, 62]), .lit (.string [33, 61]), .lit (.string [40]), .lit (.string [41]), .lit (.string [123]), .lit (.string [125]), .lit (.string [91]), .lit (.string [93]), .lit (.string [44]), .lit (.string [59]), .lit (.string [58]), .lit (.string [61]), .lit (.string [33]), .lit (.string [38]), .lit (.string [124])]

/-- 'foresightlaw04.LexerCovers': WHATEVER THE INPUT: true; the input reads as it did. -/
def lexerCoversSpec : ChangeSpec := { name := "lexerCovers", fn := fun _ => fun
  | [d] => { results := [.lit (.bool true)], args := [d] }
  | _ => none }
def lexerCoversRow : OpenClaim := { program := "yteonolnfgppagaadoor", sum := "9b88284ea03cd90969cc843396ea477f9e8d376a0d12eed7db2b85fc619c393c", func := "foresight/foresightlaw04.LexerCovers", spec := "lexerCovers", unfollowed := true, recurses := true, named := ["foresight/lexer.spans", "foresight/lexer.symbols"], apart := false, laid := [("foresight/lexer.spans", laid_foresight_lexer_spans), ("foresight/lexer.symbols", laid_foresight_lexer_symbols)] }
def LexerCoversSaid : Prop := lexerCoversRow.holds Tryd.pinned (OpenSpec.ofChange lexerCoversSpec)

/-- ITS FALSE NEIGHBOUR: 'it returns false'. Refute it at one input. -/
def lexerCoversWrong : ChangeSpec := { name := "lexerCovers", fn := fun _ => fun
  | [d] => { results := [.lit (.bool false)], args := [d] }
  | _ => none }
def LexerCoversWrongFalsely : Prop := lexerCoversRow.holds Tryd.pinned (OpenSpec.ofChange lexerCoversWrong)

/-- 'foresightlaw04.LexerGaps': WHATEVER THE INPUT: true; the input reads as it did. -/
def lexerGapsSpec : ChangeSpec := { name := "lexerGaps", fn := fun _ => fun
  | [d1, d2] => { results := [.lit (.bool true)], args := [d1, d2] }
  | _ => none }
def lexerGapsRow : OpenClaim := { program := "yteonolnfgppagaadoor", sum := "9b88284ea03cd90969cc843396ea477f9e8d376a0d12eed7db2b85fc619c393c", func := "foresight/foresightlaw04.LexerGaps", spec := "lexerGaps", unfollowed := true, recurses := true, named := ["foresight/lexer.spans", "foresight/lexer.symbols"], apart := false, laid := [("foresight/lexer.spans", laid_foresight_lexer_spans), ("foresight/lexer.symbols", laid_foresight_lexer_symbols)] }
def LexerGapsSaid : Prop := lexerGapsRow.holds Tryd.pinned (OpenSpec.ofChange lexerGapsSpec)

/-- ITS FALSE NEIGHBOUR: 'it returns false'. Refute it at one input. -/
def lexerGapsWrong : ChangeSpec := { name := "lexerGaps", fn := fun _ => fun
  | [d1, d2] => { results := [.lit (.bool false)], args := [d1, d2] }
  | _ => none }
def LexerGapsWrongFalsely : Prop := lexerGapsRow.holds Tryd.pinned (OpenSpec.ofChange lexerGapsWrong)

/-- 'foresightlaw04.LexerConcatenation': WHATEVER THE INPUT: true; the input reads as it did. -/
def lexerConcatenationSpec : ChangeSpec := { name := "lexerConcatenation", fn := fun _ => fun
  | [d1, d2] => { results := [.lit (.bool true)], args := [d1, d2] }
  | _ => none }
def lexerConcatenationRow : OpenClaim := { program := "yteonolnfgppagaadoor", sum := "9b88284ea03cd90969cc843396ea477f9e8d376a0d12eed7db2b85fc619c393c", func := "foresight/foresightlaw04.LexerConcatenation", spec := "lexerConcatenation", unfollowed := true, recurses := true, named := ["foresight/lexer.spans", "foresight/lexer.symbols"], apart := false, laid := [("foresight/lexer.spans", laid_foresight_lexer_spans), ("foresight/lexer.symbols", laid_foresight_lexer_symbols)] }
def LexerConcatenationSaid : Prop := lexerConcatenationRow.holds Tryd.pinned (OpenSpec.ofChange lexerConcatenationSpec)

/-- ITS FALSE NEIGHBOUR: 'it returns false'. Refute it at one input. -/
def lexerConcatenationWrong : ChangeSpec := { name := "lexerConcatenation", fn := fun _ => fun
  | [d1, d2] => { results := [.lit (.bool false)], args := [d1, d2] }
  | _ => none }
def LexerConcatenationWrongFalsely : Prop := lexerConcatenationRow.holds Tryd.pinned (OpenSpec.ofChange lexerConcatenationWrong)

/-- 'foresightlaw04.LexerErrors': WHATEVER THE INPUT: true; the input reads as it did. -/
def lexerErrorsSpec : ChangeSpec := { name := "lexerErrors", fn := fun _ => fun
  | [d1, d2] => { results := [.lit (.bool true)], args := [d1, d2] }
  | _ => none }
def lexerErrorsRow : OpenClaim := { program := "yteonolnfgppagaadoor", sum := "9b88284ea03cd90969cc843396ea477f9e8d376a0d12eed7db2b85fc619c393c", func := "foresight/foresightlaw04.LexerErrors", spec := "lexerErrors", unfollowed := true, recurses := true, named := ["foresight/lexer.spans", "foresight/lexer.symbols"], apart := false, laid := [("foresight/lexer.spans", laid_foresight_lexer_spans), ("foresight/lexer.symbols", laid_foresight_lexer_symbols)] }
def LexerErrorsSaid : Prop := lexerErrorsRow.holds Tryd.pinned (OpenSpec.ofChange lexerErrorsSpec)

/-- ITS FALSE NEIGHBOUR: 'it returns false'. Refute it at one input. -/
def lexerErrorsWrong : ChangeSpec := { name := "lexerErrors", fn := fun _ => fun
  | [d1, d2] => { results := [.lit (.bool false)], args := [d1, d2] }
  | _ => none }
def LexerErrorsWrongFalsely : Prop := lexerErrorsRow.holds Tryd.pinned (OpenSpec.ofChange lexerErrorsWrong)

/-- 'foresightlaw04.LexerLate': WHATEVER THE INPUT: true; the input reads as it did. -/
def lexerLateSpec : ChangeSpec := { name := "lexerLate", fn := fun _ => fun
  | [d1, d2] => { results := [.lit (.bool true)], args := [d1, d2] }
  | _ => none }
def lexerLateRow : OpenClaim := { program := "yteonolnfgppagaadoor", sum := "9b88284ea03cd90969cc843396ea477f9e8d376a0d12eed7db2b85fc619c393c", func := "foresight/foresightlaw04.LexerLate", spec := "lexerLate", unfollowed := true, recurses := true, named := ["foresight/lexer.spans", "foresight/lexer.symbols"], apart := false, laid := [("foresight/lexer.spans", laid_foresight_lexer_spans), ("foresight/lexer.symbols", laid_foresight_lexer_symbols)] }
def LexerLateSaid : Prop := lexerLateRow.holds Tryd.pinned (OpenSpec.ofChange lexerLateSpec)

/-- ITS FALSE NEIGHBOUR: 'it returns false'. Refute it at one input. -/
def lexerLateWrong : ChangeSpec := { name := "lexerLate", fn := fun _ => fun
  | [d1, d2] => { results := [.lit (.bool false)], args := [d1, d2] }
  | _ => none }
def LexerLateWrongFalsely : Prop := lexerLateRow.holds Tryd.pinned (OpenSpec.ofChange lexerLateWrong)

/- THE SECOND FORM. 'bulk': how many values and letters a reading holds, each counted each time it is reached (what is shared counts as often as it is met; a slice's spare places count too). A statement '..UptoSaid' is the law's where the arguments, and the package variables that the reading takes, are together of bulk at most 1048576: NARROWER than '..Said'. Prove '..Said' where nothing that the law and all that it calls make is longer than what came in: it says more and counts as full. Else prove '..UptoSaid'. A law counts once. -/
mutual
def uptoBulk {H : Type} : DataW H → Nat
  | .lit (.string bytes) => bytes.length + 1
  | .lit _ => 1
  | .nil => 1
  | .ptr d => uptoBulk d + 1
  | .slice elems spare => uptoBulkAll elems + uptoBulkAll spare + 1
  | .agg parts => uptoBulkAll parts + 1
  | .iface _ d => uptoBulk d + 1
  | .map entries => uptoBulkEntries entries + 1
  | .held _ => 1
def uptoBulkAll {H : Type} : List (DataW H) → Nat
  | [] => 0
  | d :: r => uptoBulk d + uptoBulkAll r
def uptoBulkEntries {H : Type} : List (Lit × DataW H) → Nat
  | [] => 0
  | x :: r => uptoBulkEntry x + uptoBulkEntries r
def uptoBulkEntry {H : Type} : Lit × DataW H → Nat
  | (.string bytes, d) => bytes.length + uptoBulk d + 1
  | (_, d) => uptoBulk d + 1
 end
def uptoSmall : (H : Type) → List (DataW H) → Bool := fun _ ds => decide (uptoBulkAll ds ≤ 1048576)
def OpenSpec.upto (s : _root_.Go.ChangeSpec) : _root_.Go.OpenSpec := { _root_.Go.OpenSpec.ofChange s with cond := some uptoSmall }

/-- 'foresightlaw04.LexerCovers', WHERE WHAT IT READS IS OF BULK AT MOST 1048576: true; the input reads as it did. -/
def lexerCoversUptoRow : OpenClaim := { program := "yteonolnfgppagaadoor", sum := "9b88284ea03cd90969cc843396ea477f9e8d376a0d12eed7db2b85fc619c393c", func := "foresight/foresightlaw04.LexerCovers", spec := "lexerCovers", unfollowed := true, recurses := true, named := ["foresight/lexer.spans", "foresight/lexer.symbols"], apart := false, laid := [("foresight/lexer.spans", laid_foresight_lexer_spans), ("foresight/lexer.symbols", laid_foresight_lexer_symbols)], narrowed := true }
def LexerCoversUptoSaid : Prop := lexerCoversUptoRow.holds Tryd.pinned (OpenSpec.upto lexerCoversSpec)

/-- 'foresightlaw04.LexerGaps', WHERE WHAT IT READS IS OF BULK AT MOST 1048576: true; the input reads as it did. -/
def lexerGapsUptoRow : OpenClaim := { program := "yteonolnfgppagaadoor", sum := "9b88284ea03cd90969cc843396ea477f9e8d376a0d12eed7db2b85fc619c393c", func := "foresight/foresightlaw04.LexerGaps", spec := "lexerGaps", unfollowed := true, recurses := true, named := ["foresight/lexer.spans", "foresight/lexer.symbols"], apart := false, laid := [("foresight/lexer.spans", laid_foresight_lexer_spans), ("foresight/lexer.symbols", laid_foresight_lexer_symbols)], narrowed := true }
def LexerGapsUptoSaid : Prop := lexerGapsUptoRow.holds Tryd.pinned (OpenSpec.upto lexerGapsSpec)

/-- 'foresightlaw04.LexerConcatenation', WHERE WHAT IT READS IS OF BULK AT MOST 1048576: true; the input reads as it did. -/
def lexerConcatenationUptoRow : OpenClaim := { program := "yteonolnfgppagaadoor", sum := "9b88284ea03cd90969cc843396ea477f9e8d376a0d12eed7db2b85fc619c393c", func := "foresight/foresightlaw04.LexerConcatenation", spec := "lexerConcatenation", unfollowed := true, recurses := true, named := ["foresight/lexer.spans", "foresight/lexer.symbols"], apart := false, laid := [("foresight/lexer.spans", laid_foresight_lexer_spans), ("foresight/lexer.symbols", laid_foresight_lexer_symbols)], narrowed := true }
def LexerConcatenationUptoSaid : Prop := lexerConcatenationUptoRow.holds Tryd.pinned (OpenSpec.upto lexerConcatenationSpec)

/-- 'foresightlaw04.LexerErrors', WHERE WHAT IT READS IS OF BULK AT MOST 1048576: true; the input reads as it did. -/
def lexerErrorsUptoRow : OpenClaim := { program := "yteonolnfgppagaadoor", sum := "9b88284ea03cd90969cc843396ea477f9e8d376a0d12eed7db2b85fc619c393c", func := "foresight/foresightlaw04.LexerErrors", spec := "lexerErrors", unfollowed := true, recurses := true, named := ["foresight/lexer.spans", "foresight/lexer.symbols"], apart := false, laid := [("foresight/lexer.spans", laid_foresight_lexer_spans), ("foresight/lexer.symbols", laid_foresight_lexer_symbols)], narrowed := true }
def LexerErrorsUptoSaid : Prop := lexerErrorsUptoRow.holds Tryd.pinned (OpenSpec.upto lexerErrorsSpec)

/-- 'foresightlaw04.LexerLate', WHERE WHAT IT READS IS OF BULK AT MOST 1048576: true; the input reads as it did. -/
def lexerLateUptoRow : OpenClaim := { program := "yteonolnfgppagaadoor", sum := "9b88284ea03cd90969cc843396ea477f9e8d376a0d12eed7db2b85fc619c393c", func := "foresight/foresightlaw04.LexerLate", spec := "lexerLate", unfollowed := true, recurses := true, named := ["foresight/lexer.spans", "foresight/lexer.symbols"], apart := false, laid := [("foresight/lexer.spans", laid_foresight_lexer_spans), ("foresight/lexer.symbols", laid_foresight_lexer_symbols)], narrowed := true }
def LexerLateUptoSaid : Prop := lexerLateUptoRow.holds Tryd.pinned (OpenSpec.upto lexerLateSpec)

end Rows
end Go.Proofs.YteonolnfgppagaaDoor
