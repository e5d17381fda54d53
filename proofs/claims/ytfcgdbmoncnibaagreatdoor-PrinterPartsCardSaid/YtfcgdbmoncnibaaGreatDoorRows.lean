/-
  NARROWER THAN 'FOR EVERY INPUT', by the rows' own cells (each row's printed sentence says how): PrinterMatchesReference: loops, laid · PrinterParts: loops, laid · PrinterLines: loops, laid · PrinterDifferent: loops, laid · PrinterParentheses: loops, laid · PrinterInverse: loops, laid · PrinterCanonical: laid.
  DERIVED. THE GIVEN ROWS OF THIS SEAT. 7 by the template 'for every input the law returns true; each argument reads behind the call as it read before'; 0 by the template 'total and deterministic' (their statements: YtfcgdbmoncnibaaGreatDoorTotals.lean).
  GIVEN WITH THE SEED: the statements are not yours to turn. If you find one false, say at which input.
  Laid BY PROGRAM, IN A SANDBOX (cutbox-rows.mjs): the forced cells as the released guide's own fill.sh prints them over the translation 278bd6c81adaf54d… (all of the seat's roots in one cut). By AI agents, Wed Nov 11 2026. No macro, syntax, notation, axiom, sorry.
-/
import Derived.Test.YtfcgdbmoncnibaaGreatDoorChecked
import GoSem.Claim
import GoSem.ClaimJoined
import GoSem.ClaimMapViews
import Derived.JoinedTies
import Derived.KernelRfl
namespace Go.Proofs.YtfcgdbmoncnibaaGreatDoor
/- THE CELL 'sum', in the pinned program and in every row, IS THE sha256 OF THE DUMP (.gsa) THAT YtfcgdbmoncnibaaGreatDoorProg.lean LOADS. Nothing in Lean hashes anything: it is a label: what it is worth is what the hold of that sum in a sandbox is worth. -/
noncomputable def Tryz.pinned : Pinned := { name := "ytfcgdbmoncnibaagreatdoor", sum := "278bd6c81adaf54db0cc06a8517abf32aafdcbf2203b0c3a0ff9463415221bfc", checked := Tryz.checked }
namespace Rows
def none {H : Type} : Left H := { results := [], args := [] }

/- WHAT THE LISTED PACKAGE-LEVEL VARIABLES READ AS WHEN THE CALL BEGINS. Each datum BY PROGRAM (the guide's laid-datum.mjs) off the statement by which the dump's own 'gosem.cut.vars' lays the variable. In a bare row this is a premise. The card (YtfcgdbmoncnibaaGreatDoorCards.lean) ties it to the program's text. -/
def laid_math_bits_deBruijn32tab {H : Type} : DataW H := .agg [.lit (.int .u8 0), .lit (.int .u8 1), .lit (.int .u8 28), .lit (.int .u8 2), .lit (.int .u8 29), .lit (.int .u8 14), .lit (.int .u8 24), .lit (.int .u8 3), .lit (.int .u8 30), .lit (.int .u8 22), .lit (.int .u8 20), .lit (.int .u8 15), .lit (.int .u8 25), .lit (.int .u8 17), .lit (.int .u8 4), .lit (.int .u8 8), .lit (.int .u8 31), .lit (.int .u8 27), .lit (.int .u8 13), .lit (.int .u8 23), .lit (.int .u8 21), .lit (.int .u8 19), .lit (.int .u8 16), .lit (.int .u8 7), .lit (.int .u8 26), .lit (.int .u8 12), .lit (.int .u8 18), .lit (.int .u8 6), .lit (.int .u8 11), .lit (.int .u8 5), .lit (.int .u8 10), .lit (.int .u8 9)]
def laid_math_bits_deBruijn64tab {H : Type} : DataW H := .agg [.lit (.int .u8 0), .lit (.int .u8 1), .lit (.int .u8 56), .lit (.int .u8 2), .lit (.int .u8 57), .lit (.int .u8 49), .lit (.int .u8 28), .lit (.int .u8 3), .lit (.int .u8 61), .lit (.int .u8 58), .lit (.int .u8 42), .lit (.int .u8 50), .lit (.int .u8 38), .lit (.int .u8 29), .lit (.int .u8 17), .lit (.int .u8 4), .lit (.int .u8 62), .lit (.int .u8 47), .lit (.int .u8 59), .lit (.int .u8 36), .lit (.int .u8 45), .lit (.int .u8 43), .lit (.int .u8 51), .lit (.int .u8 22), .lit (.int .u8 53), .lit (.int .u8 39), .lit (.int .u8 33), .lit (.int .u8 30), .lit (.int .u8 24), .lit (.int .u8 18), .lit (.int .u8 12), .lit (.int .u8 5), .lit (.int .u8 63), .lit (.int .u8 55), .lit (.int .u8 48), .lit (.int .u8 27), .lit (.int .u8 60), .lit (.int .u8 41), .lit (.int .u8 37), .lit (.int .u8 16), .lit (.int .u8 46), .lit (.int .u8 35), .lit (.int .u8 44), .lit (.int .u8 21), .lit (.int .u8 52), .lit (.int .u8 32), .lit (.int .u8 23), .lit (.int .u8 11), .lit (.int .u8 54), .lit (.int .u8 26), .lit (.int .u8 40), .lit (.int .u8 15), .lit (.int .u8 34), .lit (.int .u8 20), .lit (.int .u8 31), .lit (.int .u8 10), .lit (.int .u8 25), .lit (.int .u8 14), .lit (.int .u8 19), .lit (.int .u8 9), .lit (.int .u8 13), .lit (.int .u8 8), .lit (.int .u8 7), .lit (.int .u8 6)]
def laid_internal_strconv_uint64pow10 {H : Type} : DataW H := .agg [.lit (.int .u64 1), .lit (.int .u64 10), .lit (.int .u64 100), .lit (.int .u64 1000), .lit (.int .u64 10000), .lit (.int .u64 100000), .lit (.int .u64 1000000), .lit (.int .u64 10000000), .lit (.int .u64 100000000), .lit (.int .u64 1000000000), .lit (.int .u64 10000000000), .lit (.int .u64 100000000000), .lit (.int .u64 1000000000000), .lit (.int .u64 10000000000000), .lit (.int .u64 100000000000000), .lit (.int .u64 1000000000000000), .lit (.int .u64 10000000000000000), .lit (.int .u64 100000000000000000), .lit (.int .u64 1000000000000000000), .lit (.int .u64 10000000000000000000)]
def laid_strconv_ErrRange {H : Type} : DataW H := .iface "*errors.errorString" (.ptr (.agg [.lit (.string [118, 97, 108, 117, 101, 32, 111, 117, 116, 32, 111, 102, 32, 114, 97, 110, 103, 101])]))
def laid_strconv_ErrSyntax {H : Type} : DataW H := .iface "*errors.errorString" (.ptr (.agg [.lit (.string [105, 110, 118, 97, 108, 105, 100, 32, 115, 121, 110, 116, 97, 120])]))
def laid_foresight_signal_keys {H : Type} : DataW H := .agg [.lit (.string [105, 110, 112, 117, 116]), .lit (.string [111, 117, 116, 112, 117, 116]), .lit (.string [112, 97, 114, 116]), .lit (.string [97, 115, 115, 117, 109, 101]), .lit (.string [103, 117, 97, 114, 97, 110, 116, 101, 101]), .lit (.string [116, 114, 117, 101]), .lit (.string [102, 97, 108, 115, 101]), .lit (.string [97, 100, 100]), .lit (.string [100, 114, 111, 112]), .lit (.string [114, 101, 112, 108, 97, 99, 101])]
def laid_foresight_formula_forms {H : Type} : DataW H := .agg [.agg [.lit (.int .i64 0), .lit (.int .i64 0), .lit (.int .i64 0), .lit (.int .i64 0), .lit (.bool false), .lit (.bool false), .lit (.bool false), .lit (.bool false)], .agg [.lit (.int .i64 0), .lit (.int .i64 0), .lit (.int .i64 0), .lit (.int .i64 0), .lit (.bool false), .lit (.bool false), .lit (.bool false), .lit (.bool true)], .agg [.lit (.int .i64 0), .lit (.int .i64 0), .lit (.int .i64 0), .lit (.int .i64 0), .lit (.bool false), .lit (.bool false), .lit (.bool false), .lit (.bool true)], .agg [.lit (.int .i64 0), .lit (.int .i64 0), .lit (.int .i64 3), .lit (.int .i64 0), .lit (.bool true), .lit (.bool false), .lit (.bool false), .lit (.bool true)], .agg [.lit (.int .i64 1), .lit (.int .i64 1), .lit (.int .i64 0), .lit (.int .i64 0), .lit (.bool false), .lit (.bool false), .lit (.bool false), .lit (.bool true)], .agg [.lit (.int .i64 2), .lit (.int .i64 1099511627776), .lit (.int .i64 0), .lit (.int .i64 0), .lit (.bool false), .lit (.bool false), .lit (.bool false), .lit (.bool true)], .agg [.lit (.int .i64 2), .lit (.int .i64 1099511627776), .lit (.int .i64 0), .lit (.int .i64 0), .lit (.bool false), .lit (.bool false), .lit (.bool false), .lit (.bool true)], .agg [.lit (.int .i64 2), .lit (.int .i64 2), .lit (.int .i64 0), .lit (.int .i64 0), .lit (.bool false), .lit (.bool false), .lit (.bool false), .lit (.bool false)], .agg [.lit (.int .i64 1), .lit (.int .i64 1), .lit (.int .i64 0), .lit (.int .i64 0), .lit (.bool false), .lit (.bool false), .lit (.bool true), .lit (.bool true)], .agg [.lit (.int .i64 2), .lit (.int .i64 2), .lit (.int .i64 0), .lit (.int .i64 0), .lit (.bool false), .lit (.bool false), .lit (.bool true), .lit (.bool true)], .agg [.lit (.int .i64 2), .lit (.int .i64 2), .lit (.int .i64 0), .lit (.int .i64 0), .lit (.bool false), .lit (.bool false), .lit (.bool true), .lit (.bool true)], .agg [.lit (.int .i64 1), .lit (.int .i64 1), .lit (.int .i64 0), .lit (.int .i64 0), .lit (.bool false), .lit (.bool false), .lit (.bool true), .lit (.bool false)], .agg [.lit (.int .i64 1), .lit (.int .i64 1), .lit (.int .i64 0), .lit (.int .i64 0), .lit (.bool false), .lit (.bool false), .lit (.bool true), .lit (.bool false)], .agg [.lit (.int .i64 1), .lit (.int .i64 1), .lit (.int .i64 0), .lit (.int .i64 9), .lit (.bool false), .lit (.bool false), .lit (.bool true), .lit (.bool false)], .agg [.lit (.int .i64 1), .lit (.int .i64 1), .lit (.int .i64 0), .lit (.int .i64 9), .lit (.bool false), .lit (.bool false), .lit (.bool true), .lit (.bool false)], .agg [.lit (.int .i64 1), .lit (.int .i64 1), .lit (.int .i64 1), .lit (.int .i64 0), .lit (.bool false), .lit (.bool true), .lit (.bool false), .lit (.bool true)], .agg [.lit (.int .i64 2), .lit (.int .i64 2), .lit (.int .i64 1), .lit (.int .i64 0), .lit (.bool false), .lit (.bool true), .lit (.bool false), .lit (.bool true)], .agg [.lit (.int .i64 2), .lit (.int .i64 2), .lit (.int .i64 1), .lit (.int .i64 0), .lit (.bool false), .lit (.bool true), .lit (.bool false), .lit (.bool true)], .agg [.lit (.int .i64 1), .lit (.int .i64 1), .lit (.int .i64 0), .lit (.int .i64 0), .lit (.bool false), .lit (.bool true), .lit (.bool false), .lit (.bool false)], .agg [.lit (.int .i64 1), .lit (.int .i64 1), .lit (.int .i64 0), .lit (.int .i64 0), .lit (.bool false), .lit (.bool true), .lit (.bool false), .lit (.bool false)]]
def laid_foresight_lexer_spans {H : Type} : DataW H := .agg [.agg [.lit (.int .u8 32), .lit (.int .u8 32), .lit (.int .i64 0)], .agg [.lit (.int .u8 9), .lit (.int .u8 10), .lit (.int .i64 0)], .agg [.lit (.int .u8 13), .lit (.int .u8 13), .lit (.int .i64 0)], .agg [.lit (.int .u8 37), .lit (.int .u8 37), .lit (.int .i64 1)], .agg [.lit (.int .u8 97), .lit (.int .u8 122), .lit (.int .i64 2)], .agg [.lit (.int .u8 65), .lit (.int .u8 90), .lit (.int .i64 2)], .agg [.lit (.int .u8 48), .lit (.int .u8 57), .lit (.int .i64 3)], .agg [.lit (.int .u8 40), .lit (.int .u8 41), .lit (.int .i64 4)], .agg [.lit (.int .u8 123), .lit (.int .u8 125), .lit (.int .i64 4)], .agg [.lit (.int .u8 91), .lit (.int .u8 91), .lit (.int .i64 4)], .agg [.lit (.int .u8 93), .lit (.int .u8 93), .lit (.int .i64 4)], .agg [.lit (.int .u8 44), .lit (.int .u8 45), .lit (.int .i64 4)], .agg [.lit (.int .u8 58), .lit (.int .u8 59), .lit (.int .i64 4)], .agg [.lit (.int .u8 61), .lit (.int .u8 61), .lit (.int .i64 4)], .agg [.lit (.int .u8 33), .lit (.int .u8 33), .lit (.int .i64 4)], .agg [.lit (.int .u8 38), .lit (.int .u8 38), .lit (.int .i64 4)]]
def laid_foresight_lexer_symbols {H : Type} : DataW H := .agg [.lit (.string [45, 62]), .lit (.string [33, 61]), .lit (.string [40]), .lit (.string [41]), .lit (.string [123]), .lit (.string [125]), .lit (.string [91]), .lit (.string [93]), .lit (.string [44]), .lit (.string [59]), .lit (.string [58]), .lit (.string [61]), .lit (.string [33]), .lit (.string [38]), .lit (.string [124])]

/-- 'foresightlaw06.PrinterMatchesReference': WHATEVER THE INPUT: true; the input reads as it did. -/
def printerMatchesReferenceSpec : ChangeSpec := { name := "printerMatchesReference", fn := fun _ => fun
  | [d1, d2, d3] => { results := [.lit (.bool true)], args := [d1, d2, d3] }
  | _ => none }
def printerMatchesReferenceRow : OpenClaim := { program := "ytfcgdbmoncnibaagreatdoor", sum := "278bd6c81adaf54db0cc06a8517abf32aafdcbf2203b0c3a0ff9463415221bfc", func := "foresight/foresightlaw06.PrinterMatchesReference", spec := "printerMatchesReference", inPlace := ["internal/abi.NoEscape"], unfollowed := true, recurses := true, named := ["foresight/lexer.spans", "foresight/lexer.symbols", "foresight/signal.keys", "strconv.ErrSyntax", "strconv.ErrRange", "internal/strconv.uint64pow10", "math/bits.deBruijn32tab", "math/bits.deBruijn64tab", "foresight/formula.forms"], loops := true, apart := false, laid := [("math/bits.deBruijn32tab", laid_math_bits_deBruijn32tab), ("math/bits.deBruijn64tab", laid_math_bits_deBruijn64tab), ("internal/strconv.uint64pow10", laid_internal_strconv_uint64pow10), ("strconv.ErrRange", laid_strconv_ErrRange), ("strconv.ErrSyntax", laid_strconv_ErrSyntax), ("foresight/signal.keys", laid_foresight_signal_keys), ("foresight/formula.forms", laid_foresight_formula_forms), ("foresight/lexer.spans", laid_foresight_lexer_spans), ("foresight/lexer.symbols", laid_foresight_lexer_symbols)] }
def PrinterMatchesReferenceSaid : Prop := printerMatchesReferenceRow.holds Tryz.pinned (OpenSpec.ofChange printerMatchesReferenceSpec)

/-- ITS FALSE NEIGHBOUR: 'it returns false'. Refute it at one input. -/
def printerMatchesReferenceWrong : ChangeSpec := { name := "printerMatchesReference", fn := fun _ => fun
  | [d1, d2, d3] => { results := [.lit (.bool false)], args := [d1, d2, d3] }
  | _ => none }
def PrinterMatchesReferenceWrongFalsely : Prop := printerMatchesReferenceRow.holds Tryz.pinned (OpenSpec.ofChange printerMatchesReferenceWrong)

/-- 'foresightlaw06.PrinterParts': WHATEVER THE INPUT: true; the input reads as it did. -/
def printerPartsSpec : ChangeSpec := { name := "printerParts", fn := fun _ => fun
  | [d1, d2, d3] => { results := [.lit (.bool true)], args := [d1, d2, d3] }
  | _ => none }
def printerPartsRow : OpenClaim := { program := "ytfcgdbmoncnibaagreatdoor", sum := "278bd6c81adaf54db0cc06a8517abf32aafdcbf2203b0c3a0ff9463415221bfc", func := "foresight/foresightlaw06.PrinterParts", spec := "printerParts", inPlace := ["internal/abi.NoEscape"], unfollowed := true, recurses := true, named := ["foresight/lexer.spans", "foresight/lexer.symbols", "foresight/signal.keys", "strconv.ErrSyntax", "strconv.ErrRange", "internal/strconv.uint64pow10", "math/bits.deBruijn32tab", "math/bits.deBruijn64tab", "foresight/formula.forms"], loops := true, apart := false, laid := [("math/bits.deBruijn32tab", laid_math_bits_deBruijn32tab), ("math/bits.deBruijn64tab", laid_math_bits_deBruijn64tab), ("internal/strconv.uint64pow10", laid_internal_strconv_uint64pow10), ("strconv.ErrRange", laid_strconv_ErrRange), ("strconv.ErrSyntax", laid_strconv_ErrSyntax), ("foresight/signal.keys", laid_foresight_signal_keys), ("foresight/formula.forms", laid_foresight_formula_forms), ("foresight/lexer.spans", laid_foresight_lexer_spans), ("foresight/lexer.symbols", laid_foresight_lexer_symbols)] }
def PrinterPartsSaid : Prop := printerPartsRow.holds Tryz.pinned (OpenSpec.ofChange printerPartsSpec)

/-- ITS FALSE NEIGHBOUR: 'it returns false'. Refute it at one input. -/
def printerPartsWrong : ChangeSpec := { name := "printerParts", fn := fun _ => fun
  | [d1, d2, d3] => { results := [.lit (.bool false)], args := [d1, d2, d3] }
  | _ => none }
def PrinterPartsWrongFalsely : Prop := printerPartsRow.holds Tryz.pinned (OpenSpec.ofChange printerPartsWrong)

/-- 'foresightlaw06.PrinterLines': WHATEVER THE INPUT: true; the input reads as it did. -/
def printerLinesSpec : ChangeSpec := { name := "printerLines", fn := fun _ => fun
  | [d] => { results := [.lit (.bool true)], args := [d] }
  | _ => none }
def printerLinesRow : OpenClaim := { program := "ytfcgdbmoncnibaagreatdoor", sum := "278bd6c81adaf54db0cc06a8517abf32aafdcbf2203b0c3a0ff9463415221bfc", func := "foresight/foresightlaw06.PrinterLines", spec := "printerLines", inPlace := ["internal/abi.NoEscape"], unfollowed := true, recurses := true, named := ["foresight/lexer.spans", "foresight/lexer.symbols", "foresight/signal.keys", "strconv.ErrSyntax", "strconv.ErrRange", "internal/strconv.uint64pow10", "math/bits.deBruijn32tab", "math/bits.deBruijn64tab", "foresight/formula.forms"], loops := true, apart := false, laid := [("math/bits.deBruijn32tab", laid_math_bits_deBruijn32tab), ("math/bits.deBruijn64tab", laid_math_bits_deBruijn64tab), ("internal/strconv.uint64pow10", laid_internal_strconv_uint64pow10), ("strconv.ErrRange", laid_strconv_ErrRange), ("strconv.ErrSyntax", laid_strconv_ErrSyntax), ("foresight/signal.keys", laid_foresight_signal_keys), ("foresight/formula.forms", laid_foresight_formula_forms), ("foresight/lexer.spans", laid_foresight_lexer_spans), ("foresight/lexer.symbols", laid_foresight_lexer_symbols)] }
def PrinterLinesSaid : Prop := printerLinesRow.holds Tryz.pinned (OpenSpec.ofChange printerLinesSpec)

/-- ITS FALSE NEIGHBOUR: 'it returns false'. Refute it at one input. -/
def printerLinesWrong : ChangeSpec := { name := "printerLines", fn := fun _ => fun
  | [d] => { results := [.lit (.bool false)], args := [d] }
  | _ => none }
def PrinterLinesWrongFalsely : Prop := printerLinesRow.holds Tryz.pinned (OpenSpec.ofChange printerLinesWrong)

/-- 'foresightlaw06.PrinterDifferent': WHATEVER THE INPUT: true; the input reads as it did. -/
def printerDifferentSpec : ChangeSpec := { name := "printerDifferent", fn := fun _ => fun
  | [d1, d2, d3, d4, d5, d6] => { results := [.lit (.bool true)], args := [d1, d2, d3, d4, d5, d6] }
  | _ => none }
def printerDifferentRow : OpenClaim := { program := "ytfcgdbmoncnibaagreatdoor", sum := "278bd6c81adaf54db0cc06a8517abf32aafdcbf2203b0c3a0ff9463415221bfc", func := "foresight/foresightlaw06.PrinterDifferent", spec := "printerDifferent", inPlace := ["internal/abi.NoEscape", "internal/bytealg.abigen_runtime_cmpstring"], unfollowed := true, recurses := true, named := ["foresight/lexer.spans", "foresight/lexer.symbols", "foresight/signal.keys", "strconv.ErrSyntax", "strconv.ErrRange", "internal/strconv.uint64pow10", "math/bits.deBruijn32tab", "math/bits.deBruijn64tab", "foresight/formula.forms"], loops := true, apart := false, laid := [("math/bits.deBruijn32tab", laid_math_bits_deBruijn32tab), ("math/bits.deBruijn64tab", laid_math_bits_deBruijn64tab), ("internal/strconv.uint64pow10", laid_internal_strconv_uint64pow10), ("strconv.ErrRange", laid_strconv_ErrRange), ("strconv.ErrSyntax", laid_strconv_ErrSyntax), ("foresight/signal.keys", laid_foresight_signal_keys), ("foresight/formula.forms", laid_foresight_formula_forms), ("foresight/lexer.spans", laid_foresight_lexer_spans), ("foresight/lexer.symbols", laid_foresight_lexer_symbols)] }
def PrinterDifferentSaid : Prop := printerDifferentRow.holds Tryz.pinned (OpenSpec.ofChange printerDifferentSpec)

/-- ITS FALSE NEIGHBOUR: 'it returns false'. Refute it at one input. -/
def printerDifferentWrong : ChangeSpec := { name := "printerDifferent", fn := fun _ => fun
  | [d1, d2, d3, d4, d5, d6] => { results := [.lit (.bool false)], args := [d1, d2, d3, d4, d5, d6] }
  | _ => none }
def PrinterDifferentWrongFalsely : Prop := printerDifferentRow.holds Tryz.pinned (OpenSpec.ofChange printerDifferentWrong)

/-- 'foresightlaw06.PrinterParentheses': WHATEVER THE INPUT: true; the input reads as it did. -/
def printerParenthesesSpec : ChangeSpec := { name := "printerParentheses", fn := fun _ => fun
  | [d] => { results := [.lit (.bool true)], args := [d] }
  | _ => none }
def printerParenthesesRow : OpenClaim := { program := "ytfcgdbmoncnibaagreatdoor", sum := "278bd6c81adaf54db0cc06a8517abf32aafdcbf2203b0c3a0ff9463415221bfc", func := "foresight/foresightlaw06.PrinterParentheses", spec := "printerParentheses", inPlace := ["internal/abi.NoEscape", "internal/bytealg.abigen_runtime_cmpstring"], unfollowed := true, recurses := true, named := ["foresight/lexer.spans", "foresight/lexer.symbols", "foresight/signal.keys", "strconv.ErrSyntax", "strconv.ErrRange", "internal/strconv.uint64pow10", "math/bits.deBruijn32tab", "math/bits.deBruijn64tab", "foresight/formula.forms"], loops := true, apart := false, laid := [("math/bits.deBruijn32tab", laid_math_bits_deBruijn32tab), ("math/bits.deBruijn64tab", laid_math_bits_deBruijn64tab), ("internal/strconv.uint64pow10", laid_internal_strconv_uint64pow10), ("strconv.ErrRange", laid_strconv_ErrRange), ("strconv.ErrSyntax", laid_strconv_ErrSyntax), ("foresight/signal.keys", laid_foresight_signal_keys), ("foresight/formula.forms", laid_foresight_formula_forms), ("foresight/lexer.spans", laid_foresight_lexer_spans), ("foresight/lexer.symbols", laid_foresight_lexer_symbols)] }
def PrinterParenthesesSaid : Prop := printerParenthesesRow.holds Tryz.pinned (OpenSpec.ofChange printerParenthesesSpec)

/-- ITS FALSE NEIGHBOUR: 'it returns false'. Refute it at one input. -/
def printerParenthesesWrong : ChangeSpec := { name := "printerParentheses", fn := fun _ => fun
  | [d] => { results := [.lit (.bool false)], args := [d] }
  | _ => none }
def PrinterParenthesesWrongFalsely : Prop := printerParenthesesRow.holds Tryz.pinned (OpenSpec.ofChange printerParenthesesWrong)

/-- 'foresightlaw06.PrinterInverse': WHATEVER THE INPUT: true; the input reads as it did. -/
def printerInverseSpec : ChangeSpec := { name := "printerInverse", fn := fun _ => fun
  | [d1, d2, d3] => { results := [.lit (.bool true)], args := [d1, d2, d3] }
  | _ => none }
def printerInverseRow : OpenClaim := { program := "ytfcgdbmoncnibaagreatdoor", sum := "278bd6c81adaf54db0cc06a8517abf32aafdcbf2203b0c3a0ff9463415221bfc", func := "foresight/foresightlaw06.PrinterInverse", spec := "printerInverse", inPlace := ["internal/abi.NoEscape", "internal/bytealg.abigen_runtime_cmpstring"], unfollowed := true, recurses := true, named := ["foresight/lexer.spans", "foresight/lexer.symbols", "foresight/signal.keys", "strconv.ErrSyntax", "strconv.ErrRange", "internal/strconv.uint64pow10", "math/bits.deBruijn32tab", "math/bits.deBruijn64tab", "foresight/formula.forms"], loops := true, apart := false, laid := [("math/bits.deBruijn32tab", laid_math_bits_deBruijn32tab), ("math/bits.deBruijn64tab", laid_math_bits_deBruijn64tab), ("internal/strconv.uint64pow10", laid_internal_strconv_uint64pow10), ("strconv.ErrRange", laid_strconv_ErrRange), ("strconv.ErrSyntax", laid_strconv_ErrSyntax), ("foresight/signal.keys", laid_foresight_signal_keys), ("foresight/formula.forms", laid_foresight_formula_forms), ("foresight/lexer.spans", laid_foresight_lexer_spans), ("foresight/lexer.symbols", laid_foresight_lexer_symbols)] }
def PrinterInverseSaid : Prop := printerInverseRow.holds Tryz.pinned (OpenSpec.ofChange printerInverseSpec)

/-- ITS FALSE NEIGHBOUR: 'it returns false'. Refute it at one input. -/
def printerInverseWrong : ChangeSpec := { name := "printerInverse", fn := fun _ => fun
  | [d1, d2, d3] => { results := [.lit (.bool false)], args := [d1, d2, d3] }
  | _ => none }
def PrinterInverseWrongFalsely : Prop := printerInverseRow.holds Tryz.pinned (OpenSpec.ofChange printerInverseWrong)

/-- 'foresightlaw06.PrinterCanonical': WHATEVER THE INPUT: true; the input reads as it did. -/
def printerCanonicalSpec : ChangeSpec := { name := "printerCanonical", fn := fun _ => fun
  | [d] => { results := [.lit (.bool true)], args := [d] }
  | _ => none }
def printerCanonicalRow : OpenClaim := { program := "ytfcgdbmoncnibaagreatdoor", sum := "278bd6c81adaf54db0cc06a8517abf32aafdcbf2203b0c3a0ff9463415221bfc", func := "foresight/foresightlaw06.PrinterCanonical", spec := "printerCanonical", inPlace := ["internal/abi.NoEscape", "internal/bytealg.abigen_runtime_cmpstring"], unfollowed := true, recurses := true, named := ["foresight/lexer.spans", "foresight/lexer.symbols", "foresight/signal.keys", "strconv.ErrSyntax", "strconv.ErrRange", "internal/strconv.uint64pow10", "math/bits.deBruijn32tab", "math/bits.deBruijn64tab", "foresight/formula.forms"], apart := false, laid := [("math/bits.deBruijn32tab", laid_math_bits_deBruijn32tab), ("math/bits.deBruijn64tab", laid_math_bits_deBruijn64tab), ("internal/strconv.uint64pow10", laid_internal_strconv_uint64pow10), ("strconv.ErrRange", laid_strconv_ErrRange), ("strconv.ErrSyntax", laid_strconv_ErrSyntax), ("foresight/signal.keys", laid_foresight_signal_keys), ("foresight/formula.forms", laid_foresight_formula_forms), ("foresight/lexer.spans", laid_foresight_lexer_spans), ("foresight/lexer.symbols", laid_foresight_lexer_symbols)] }
def PrinterCanonicalSaid : Prop := printerCanonicalRow.holds Tryz.pinned (OpenSpec.ofChange printerCanonicalSpec)

/-- ITS FALSE NEIGHBOUR: 'it returns false'. Refute it at one input. -/
def printerCanonicalWrong : ChangeSpec := { name := "printerCanonical", fn := fun _ => fun
  | [d] => { results := [.lit (.bool false)], args := [d] }
  | _ => none }
def PrinterCanonicalWrongFalsely : Prop := printerCanonicalRow.holds Tryz.pinned (OpenSpec.ofChange printerCanonicalWrong)

/- THE SECOND FORM. 'bulk': how many values and letters a reading holds, each counted each time it is reached (what is shared counts as often as it is met; a slice's spare places count too). A statement '..UptoSaid' is the law's where the arguments, and the package variables that the reading takes, are together of bulk at most 1048576: NARROWER than '..Said'. Prove '..Said' where nothing that the law and all that it calls make is longer than what came in: it says more and counts as full. Else prove '..UptoSaid'. A law counts once. -/
mutual
def uptoBulk {H : Type} : DataW H → Nat
  | .lit (.string bytes) => bytes.length + 1
  | .lit _ => 1
  | .nil => 1
  | .ptr d => uptoBulk d + 1
  | .slice elems spare => uptoBulkAll elems + uptoBulkAll spare + 1
  | .agg parts => uptoBulkAll parts + 1
  | .iface _ d => uptoBulk d + 1
  | .map entries => uptoBulkEntries entries + 1
  | .held _ => 1
def uptoBulkAll {H : Type} : List (DataW H) → Nat
  | [] => 0
  | d :: r => uptoBulk d + uptoBulkAll r
def uptoBulkEntries {H : Type} : List (Lit × DataW H) → Nat
  | [] => 0
  | x :: r => uptoBulkEntry x + uptoBulkEntries r
def uptoBulkEntry {H : Type} : Lit × DataW H → Nat
  | (.string bytes, d) => bytes.length + uptoBulk d + 1
  | (_, d) => uptoBulk d + 1
 end
def uptoSmall : (H : Type) → List (DataW H) → Bool := fun _ ds => decide (uptoBulkAll ds ≤ 1048576)
def OpenSpec.upto (s : _root_.Go.ChangeSpec) : _root_.Go.OpenSpec := { _root_.Go.OpenSpec.ofChange s with cond := some uptoSmall }

/-- 'foresightlaw06.PrinterMatchesReference', WHERE WHAT IT READS IS OF BULK AT MOST 1048576: true; the input reads as it did. -/
def printerMatchesReferenceUptoRow : OpenClaim := { program := "ytfcgdbmoncnibaagreatdoor", sum := "278bd6c81adaf54db0cc06a8517abf32aafdcbf2203b0c3a0ff9463415221bfc", func := "foresight/foresightlaw06.PrinterMatchesReference", spec := "printerMatchesReference", inPlace := ["internal/abi.NoEscape"], unfollowed := true, recurses := true, named := ["foresight/lexer.spans", "foresight/lexer.symbols", "foresight/signal.keys", "strconv.ErrSyntax", "strconv.ErrRange", "internal/strconv.uint64pow10", "math/bits.deBruijn32tab", "math/bits.deBruijn64tab", "foresight/formula.forms"], loops := true, apart := false, laid := [("math/bits.deBruijn32tab", laid_math_bits_deBruijn32tab), ("math/bits.deBruijn64tab", laid_math_bits_deBruijn64tab), ("internal/strconv.uint64pow10", laid_internal_strconv_uint64pow10), ("strconv.ErrRange", laid_strconv_ErrRange), ("strconv.ErrSyntax", laid_strconv_ErrSyntax), ("foresight/signal.keys", laid_foresight_signal_keys), ("foresight/formula.forms", laid_foresight_formula_forms), ("foresight/lexer.spans", laid_foresight_lexer_spans), ("foresight/lexer.symbols", laid_foresight_lexer_symbols)], narrowed := true }
def PrinterMatchesReferenceUptoSaid : Prop := printerMatchesReferenceUptoRow.holds Tryz.pinned (OpenSpec.upto printerMatchesReferenceSpec)

/-- 'foresightlaw06.PrinterParts', WHERE WHAT IT READS IS OF BULK AT MOST 1048576: true; the input reads as it did. -/
def printerPartsUptoRow : OpenClaim := { program := "ytfcgdbmoncnibaagreatdoor", sum := "278bd6c81adaf54db0cc06a8517abf32aafdcbf2203b0c3a0ff9463415221bfc", func := "foresight/foresightlaw06.PrinterParts", spec := "printerParts", inPlace := ["internal/abi.NoEscape"], unfollowed := true, recurses := true, named := ["foresight/lexer.spans", "foresight/lexer.symbols", "foresight/signal.keys", "strconv.ErrSyntax", "strconv.ErrRange", "internal/strconv.uint64pow10", "math/bits.deBruijn32tab", "math/bits.deBruijn64tab", "foresight/formula.forms"], loops := true, apart := false, laid := [("math/bits.deBruijn32tab", laid_math_bits_deBruijn32tab), ("math/bits.deBruijn64tab", laid_math_bits_deBruijn64tab), ("internal/strconv.uint64pow10", laid_internal_strconv_uint64pow10), ("strconv.ErrRange", laid_strconv_ErrRange), ("strconv.ErrSyntax", laid_strconv_ErrSyntax), ("foresight/signal.keys", laid_foresight_signal_keys), ("foresight/formula.forms", laid_foresight_formula_forms), ("foresight/lexer.spans", laid_foresight_lexer_spans), ("foresight/lexer.symbols", laid_foresight_lexer_symbols)], narrowed := true }
def PrinterPartsUptoSaid : Prop := printerPartsUptoRow.holds Tryz.pinned (OpenSpec.upto printerPartsSpec)

/-- 'foresightlaw06.PrinterLines', WHERE WHAT IT READS IS OF BULK AT MOST 1048576: true; the input reads as it did. -/
def printerLinesUptoRow : OpenClaim := { program := "ytfcgdbmoncnibaagreatdoor", sum := "278bd6c81adaf54db0cc06a8517abf32aafdcbf2203b0c3a0ff9463415221bfc", func := "foresight/foresightlaw06.PrinterLines", spec := "printerLines", inPlace := ["internal/abi.NoEscape"], unfollowed := true, recurses := true, named := ["foresight/lexer.spans", "foresight/lexer.symbols", "foresight/signal.keys", "strconv.ErrSyntax", "strconv.ErrRange", "internal/strconv.uint64pow10", "math/bits.deBruijn32tab", "math/bits.deBruijn64tab", "foresight/formula.forms"], loops := true, apart := false, laid := [("math/bits.deBruijn32tab", laid_math_bits_deBruijn32tab), ("math/bits.deBruijn64tab", laid_math_bits_deBruijn64tab), ("internal/strconv.uint64pow10", laid_internal_strconv_uint64pow10), ("strconv.ErrRange", laid_strconv_ErrRange), ("strconv.ErrSyntax", laid_strconv_ErrSyntax), ("foresight/signal.keys", laid_foresight_signal_keys), ("foresight/formula.forms", laid_foresight_formula_forms), ("foresight/lexer.spans", laid_foresight_lexer_spans), ("foresight/lexer.symbols", laid_foresight_lexer_symbols)], narrowed := true }
def PrinterLinesUptoSaid : Prop := printerLinesUptoRow.holds Tryz.pinned (OpenSpec.upto printerLinesSpec)

/-- 'foresightlaw06.PrinterDifferent', WHERE WHAT IT READS IS OF BULK AT MOST 1048576: true; the input reads as it did. -/
def printerDifferentUptoRow : OpenClaim := { program := "ytfcgdbmoncnibaagreatdoor", sum := "278bd6c81adaf54db0cc06a8517abf32aafdcbf2203b0c3a0ff9463415221bfc", func := "foresight/foresightlaw06.PrinterDifferent", spec := "printerDifferent", inPlace := ["internal/abi.NoEscape", "internal/bytealg.abigen_runtime_cmpstring"], unfollowed := true, recurses := true, named := ["foresight/lexer.spans", "foresight/lexer.symbols", "foresight/signal.keys", "strconv.ErrSyntax", "strconv.ErrRange", "internal/strconv.uint64pow10", "math/bits.deBruijn32tab", "math/bits.deBruijn64tab", "foresight/formula.forms"], loops := true, apart := false, laid := [("math/bits.deBruijn32tab", laid_math_bits_deBruijn32tab), ("math/bits.deBruijn64tab", laid_math_bits_deBruijn64tab), ("internal/strconv.uint64pow10", laid_internal_strconv_uint64pow10), ("strconv.ErrRange", laid_strconv_ErrRange), ("strconv.ErrSyntax", laid_strconv_ErrSyntax), ("foresight/signal.keys", laid_foresight_signal_keys), ("foresight/formula.forms", laid_foresight_formula_forms), ("foresight/lexer.spans", laid_foresight_lexer_spans), ("foresight/lexer.symbols", laid_foresight_lexer_symbols)], narrowed := true }
def PrinterDifferentUptoSaid : Prop := printerDifferentUptoRow.holds Tryz.pinned (OpenSpec.upto printerDifferentSpec)

/-- 'foresightlaw06.PrinterParentheses', WHERE WHAT IT READS IS OF BULK AT MOST 1048576: true; the input reads as it did. -/
def printerParenthesesUptoRow : OpenClaim := { program := "ytfcgdbmoncnibaagreatdoor", sum := "278bd6c81adaf54db0cc06a8517abf32aafdcbf2203b0c3a0ff9463415221bfc", func := "foresight/foresightlaw06.PrinterParentheses", spec := "printerParentheses", inPlace := ["internal/abi.NoEscape", "internal/bytealg.abigen_runtime_cmpstring"], unfollowed := true, recurses := true, named := ["foresight/lexer.spans", "foresight/lexer.symbols", "foresight/signal.keys", "strconv.ErrSyntax", "strconv.ErrRange", "internal/strconv.uint64pow10", "math/bits.deBruijn32tab", "math/bits.deBruijn64tab", "foresight/formula.forms"], loops := true, apart := false, laid := [("math/bits.deBruijn32tab", laid_math_bits_deBruijn32tab), ("math/bits.deBruijn64tab", laid_math_bits_deBruijn64tab), ("internal/strconv.uint64pow10", laid_internal_strconv_uint64pow10), ("strconv.ErrRange", laid_strconv_ErrRange), ("strconv.ErrSyntax", laid_strconv_ErrSyntax), ("foresight/signal.keys", laid_foresight_signal_keys), ("foresight/formula.forms", laid_foresight_formula_forms), ("foresight/lexer.spans", laid_foresight_lexer_spans), ("foresight/lexer.symbols", laid_foresight_lexer_symbols)], narrowed := true }
def PrinterParenthesesUptoSaid : Prop := printerParenthesesUptoRow.holds Tryz.pinned (OpenSpec.upto printerParenthesesSpec)

/-- 'foresightlaw06.PrinterInverse', WHERE WHAT IT READS IS OF BULK AT MOST 1048576: true; the input reads as it did. -/
def printerInverseUptoRow : OpenClaim := { program := "ytfcgdbmoncnibaagreatdoor", sum := "278bd6c81adaf54db0cc06a8517abf32aafdcbf2203b0c3a0ff9463415221bfc", func := "foresight/foresightlaw06.PrinterInverse", spec := "printerInverse", inPlace := ["internal/abi.NoEscape", "internal/bytealg.abigen_runtime_cmpstring"], unfollowed := true, recurses := true, named := ["foresight/lexer.spans", "foresight/lexer.symbols", "foresight/signal.keys", "strconv.ErrSyntax", "strconv.ErrRange", "internal/strconv.uint64pow10", "math/bits.deBruijn32tab", "math/bits.deBruijn64tab", "foresight/formula.forms"], loops := true, apart := false, laid := [("math/bits.deBruijn32tab", laid_math_bits_deBruijn32tab), ("math/bits.deBruijn64tab", laid_math_bits_deBruijn64tab), ("internal/strconv.uint64pow10", laid_internal_strconv_uint64pow10), ("strconv.ErrRange", laid_strconv_ErrRange), ("strconv.ErrSyntax", laid_strconv_ErrSyntax), ("foresight/signal.keys", laid_foresight_signal_keys), ("foresight/formula.forms", laid_foresight_formula_forms), ("foresight/lexer.spans", laid_foresight_lexer_spans), ("foresight/lexer.symbols", laid_foresight_lexer_symbols)], narrowed := true }
def PrinterInverseUptoSaid : Prop := printerInverseUptoRow.holds Tryz.pinned (OpenSpec.upto printerInverseSpec)

/-- 'foresightlaw06.PrinterCanonical', WHERE WHAT IT READS IS OF BULK AT MOST 1048576: true; the input reads as it did. -/
def printerCanonicalUptoRow : OpenClaim := { program := "ytfcgdbmoncnibaagreatdoor", sum := "278bd6c81adaf54db0cc06a8517abf32aafdcbf2203b0c3a0ff9463415221bfc", func := "foresight/foresightlaw06.PrinterCanonical", spec := "printerCanonical", inPlace := ["internal/abi.NoEscape", "internal/bytealg.abigen_runtime_cmpstring"], unfollowed := true, recurses := true, named := ["foresight/lexer.spans", "foresight/lexer.symbols", "foresight/signal.keys", "strconv.ErrSyntax", "strconv.ErrRange", "internal/strconv.uint64pow10", "math/bits.deBruijn32tab", "math/bits.deBruijn64tab", "foresight/formula.forms"], apart := false, laid := [("math/bits.deBruijn32tab", laid_math_bits_deBruijn32tab), ("math/bits.deBruijn64tab", laid_math_bits_deBruijn64tab), ("internal/strconv.uint64pow10", laid_internal_strconv_uint64pow10), ("strconv.ErrRange", laid_strconv_ErrRange), ("strconv.ErrSyntax", laid_strconv_ErrSyntax), ("foresight/signal.keys", laid_foresight_signal_keys), ("foresight/formula.forms", laid_foresight_formula_forms), ("foresight/lexer.spans", laid_foresight_lexer_spans), ("foresight/lexer.symbols", laid_foresight_lexer_symbols)], narrowed := true }
def PrinterCanonicalUptoSaid : Prop := printerCanonicalUptoRow.holds Tryz.pinned (OpenSpec.upto printerCanonicalSpec)

end Rows
end Go.Proofs.YtfcgdbmoncnibaaGreatDoor
