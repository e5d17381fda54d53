/-
  NARROWER THAN 'FOR EVERY INPUT', by the rows' own cells (each row's printed sentence says how): ParserGaps: laid · ParserFirstError: laid · ParserParens: laid · ParserChains: laid · ParserSpecs: laid · ParserKinds: laid.
  DERIVED. THE GIVEN ROWS OF THIS SEAT. 6 by the template 'for every input the law returns true; each argument reads behind the call as it read before'; 0 by the template 'total and deterministic' (their statements: YtmnhnbpnjepkbaaGreatDoorTotals.lean).
  GIVEN WITH THE SEED: the statements are not yours to turn. If you find one false, say at which input.
  Laid BY PROGRAM, IN A SANDBOX (cutbox-rows.mjs): the forced cells as the released guide's own fill.sh prints them over the translation 8669fb16c14b6836… (all of the seat's roots in one cut). By AI agents, Wed Nov 11 2026. No macro, syntax, notation, axiom, sorry.
-/
import Derived.Test.YtmnhnbpnjepkbaaGreatDoorChecked
import GoSem.Claim
import GoSem.ClaimJoined
import GoSem.ClaimMapViews
import Derived.JoinedTies
import Derived.KernelRfl
namespace Go.Proofs.YtmnhnbpnjepkbaaGreatDoor
/- THE CELL 'sum', in the pinned program and in every row, IS THE sha256 OF THE DUMP (.gsa) THAT YtmnhnbpnjepkbaaGreatDoorProg.lean LOADS. Nothing in Lean hashes anything: it is a label: what it is worth is what the hold of that sum in a sandbox is worth. -/
noncomputable def Tryz.pinned : Pinned := { name := "ytmnhnbpnjepkbaagreatdoor", sum := "8669fb16c14b68362f593ab8cc275176a3c7ea3842e3eb3f2fb8c724cf7a8870", checked := Tryz.checked }
namespace Rows
def none {H : Type} : Left H := { results := [], args := [] }

/- WHAT THE LISTED PACKAGE-LEVEL VARIABLES READ AS WHEN THE CALL BEGINS. Each datum BY PROGRAM (the guide's laid-datum.mjs) off the statement by which the dump's own 'gosem.cut.vars' lays the variable. In a bare row this is a premise. The card (YtmnhnbpnjepkbaaGreatDoorCards.lean) ties it to the program's text. -/
def laid_math_bits_deBruijn32tab {H : Type} : DataW H := .agg [.lit (.int .u8 0), .lit (.int .u8 1), .lit (.int .u8 28), .lit (.int .u8 2), .lit (.int .u8 29), .lit (.int .u8 14), .lit (.int .u8 24), .lit (.int .u8 3), .lit (.int .u8 30), .lit (.int .u8 22), .lit (.int .u8 20), .lit (.int .u8 15), .lit (.int .u8 25), .lit (.int .u8 17), .lit (.int .u8 4), .lit (.int .u8 8), .lit (.int .u8 31), .lit (.int .u8 27), .lit (.int .u8 13), .lit (.int .u8 23), .lit (.int .u8 21), .lit (.int .u8 19), .lit (.int .u8 16), .lit (.int .u8 7), .lit (.int .u8 26), .lit (.int .u8 12), .lit (.int .u8 18), .lit (.int .u8 6), .lit (.int .u8 11), .lit (.int .u8 5), .lit (.int .u8 10), .lit (.int .u8 9)]
def laid_math_bits_deBruijn64tab {H : Type} : DataW H := .agg [.lit (.int .u8 0), .lit (.int .u8 1), .lit (.int .u8 56), .lit (.int .u8 2), .lit (.int .u8 57), .lit (.int .u8 49), .lit (.int .u8 28), .lit (.int .u8 3), .lit (.int .u8 61), .lit (.int .u8 58), .lit (.int .u8 42), .lit (.int .u8 50), .lit (.int .u8 38), .lit (.int .u8 29), .lit (.int .u8 17), .lit (.int .u8 4), .lit (.int .u8 62), .lit (.int .u8 47), .lit (.int .u8 59), .lit (.int .u8 36), .lit (.int .u8 45), .lit (.int .u8 43), .lit (.int .u8 51), .lit (.int .u8 22), .lit (.int .u8 53), .lit (.int .u8 39), .lit (.int .u8 33), .lit (.int .u8 30), .lit (.int .u8 24), .lit (.int .u8 18), .lit (.int .u8 12), .lit (.int .u8 5), .lit (.int .u8 63), .lit (.int .u8 55), .lit (.int .u8 48), .lit (.int .u8 27), .lit (.int .u8 60), .lit (.int .u8 41), .lit (.int .u8 37), .lit (.int .u8 16), .lit (.int .u8 46), .lit (.int .u8 35), .lit (.int .u8 44), .lit (.int .u8 21), .lit (.int .u8 52), .lit (.int .u8 32), .lit (.int .u8 23), .lit (.int .u8 11), .lit (.int .u8 54), .lit (.int .u8 26), .lit (.int .u8 40), .lit (.int .u8 15), .lit (.int .u8 34), .lit (.int .u8 20), .lit (.int .u8 31), .lit (.int .u8 10), .lit (.int .u8 25), .lit (.int .u8 14), .lit (.int .u8 19), .lit (.int .u8 9), .lit (.int .u8 13), .lit (.int .u8 8), .lit (.int .u8 7), .lit (.int .u8 6)]
def laid_internal_strconv_uint64pow10 {H : Type} : DataW H := .agg [.lit (.int .u64 1), .lit (.int .u64 10), .lit (.int .u64 100), .lit (.int .u64 1000), .lit (.int .u64 10000), .lit (.int .u64 100000), .lit (.int .u64 1000000), .lit (.int .u64 10000000), .lit (.int .u64 100000000), .lit (.int .u64 1000000000), .lit (.int .u64 10000000000), .lit (.int .u64 100000000000), .lit (.int .u64 1000000000000), .lit (.int .u64 10000000000000), .lit (.int .u64 100000000000000), .lit (.int .u64 1000000000000000), .lit (.int .u64 10000000000000000), .lit (.int .u64 100000000000000000), .lit (.int .u64 1000000000000000000), .lit (.int .u64 10000000000000000000)]
def laid_strconv_ErrRange {H : Type} : DataW H := .iface "*errors.errorString" (.ptr (.agg [.lit (.string [118, 97, 108, 117, 101, 32, 111, 117, 116, 32, 111, 102, 32, 114, 97, 110, 103, 101])]))
def laid_strconv_ErrSyntax {H : Type} : DataW H := .iface "*errors.errorString" (.ptr (.agg [.lit (.string [105, 110, 118, 97, 108, 105, 100, 32, 115, 121, 110, 116, 97, 120])]))
def laid_foresight_signal_keys {H : Type} : DataW H := .agg [.lit (.string [105, 110, 112, 117, 116]), .lit (.string [111, 117, 116, 112, 117, 116]), .lit (.string [112, 97, 114, 116]), .lit (.string [97, 115, 115, 117, 109, 101]), .lit (.string [103, 117, 97, 114, 97, 110, 116, 101, 101]), .lit (.string [116, 114, 117, 101]), .lit (.string [102, 97, 108, 115, 101]), .lit (.string [97, 100, 100]), .lit (.string [100, 114, 111, 112]), .lit (.string [114, 101, 112, 108, 97, 99, 101])]
def laid_foresight_lexer_spans {H : Type} : DataW H := .agg [.agg [.lit (.int .u8 32), .lit (.int .u8 32), .lit (.int .i64 0)], .agg [.lit (.int .u8 9), .lit (.int .u8 10), .lit (.int .i64 0)], .agg [.lit (.int .u8 13), .lit (.int .u8 13), .lit (.int .i64 0)], .agg [.lit (.int .u8 37), .lit (.int .u8 37), .lit (.int .i64 1)], .agg [.lit (.int .u8 97), .lit (.int .u8 122), .lit (.int .i64 2)], .agg [.lit (.int .u8 65), .lit (.int .u8 90), .lit (.int .i64 2)], .agg [.lit (.int .u8 48), .lit (.int .u8 57), .lit (.int .i64 3)], .agg [.lit (.int .u8 40), .lit (.int .u8 41), .lit (.int .i64 4)], .agg [.lit (.int .u8 123), .lit (.int .u8 125), .lit (.int .i64 4)], .agg [.lit (.int .u8 91), .lit (.int .u8 91), .lit (.int .i64 4)], .agg [.lit (.int .u8 93), .lit (.int .u8 93), .lit (.int .i64 4)], .agg [.lit (.int .u8 44), .lit (.int .u8 45), .lit (.int .i64 4)], .agg [.lit (.int .u8 58), .lit (.int .u8 59), .lit (.int .i64 4)], .agg [.lit (.int .u8 61), .lit (.int .u8 61), .lit (.int .i64 4)], .agg [.lit (.int .u8 33), .lit (.int .u8 33), .lit (.int .i64 4)], .agg [.lit (.int .u8 38), .lit (.int .u8 38), .lit (.int .i64 4)]]
def laid_foresight_lexer_symbols {H : Type} : DataW H := .agg [.lit (.string [45, 62]), .lit (.string [33, 61]), .lit (.string [40]), .lit (.string [41]), .lit (.string [123]), .lit (.string [125]), .lit (.string [91]), .lit (.string [93]), .lit (.string [44]), .lit (.string [59]), .lit (.string [58]), .lit (.string [61]), .lit (.string [33]), .lit (.string [38]), .lit (.string [124])]

/-- 'foresightlaw05.ParserGaps': WHATEVER THE INPUT: true; the input reads as it did. -/
def parserGapsSpec : ChangeSpec := { name := "parserGaps", fn := fun _ => fun
  | [d1, d2] => { results := [.lit (.bool true)], args := [d1, d2] }
  | _ => none }
def parserGapsRow : OpenClaim := { program := "ytmnhnbpnjepkbaagreatdoor", sum := "8669fb16c14b68362f593ab8cc275176a3c7ea3842e3eb3f2fb8c724cf7a8870", func := "foresight/foresightlaw05.ParserGaps", spec := "parserGaps", unfollowed := true, recurses := true, named := ["foresight/lexer.spans", "foresight/lexer.symbols", "foresight/signal.keys", "strconv.ErrSyntax", "strconv.ErrRange", "internal/strconv.uint64pow10", "math/bits.deBruijn32tab", "math/bits.deBruijn64tab"], apart := false, laid := [("math/bits.deBruijn32tab", laid_math_bits_deBruijn32tab), ("math/bits.deBruijn64tab", laid_math_bits_deBruijn64tab), ("internal/strconv.uint64pow10", laid_internal_strconv_uint64pow10), ("strconv.ErrRange", laid_strconv_ErrRange), ("strconv.ErrSyntax", laid_strconv_ErrSyntax), ("foresight/signal.keys", laid_foresight_signal_keys), ("foresight/lexer.spans", laid_foresight_lexer_spans), ("foresight/lexer.symbols", laid_foresight_lexer_symbols)] }
def ParserGapsSaid : Prop := parserGapsRow.holds Tryz.pinned (OpenSpec.ofChange parserGapsSpec)

/-- ITS FALSE NEIGHBOUR: 'it returns false'. Refute it at one input. -/
def parserGapsWrong : ChangeSpec := { name := "parserGaps", fn := fun _ => fun
  | [d1, d2] => { results := [.lit (.bool false)], args := [d1, d2] }
  | _ => none }
def ParserGapsWrongFalsely : Prop := parserGapsRow.holds Tryz.pinned (OpenSpec.ofChange parserGapsWrong)

/-- 'foresightlaw05.ParserFirstError': WHATEVER THE INPUT: true; the input reads as it did. -/
def parserFirstErrorSpec : ChangeSpec := { name := "parserFirstError", fn := fun _ => fun
  | [d] => { results := [.lit (.bool true)], args := [d] }
  | _ => none }
def parserFirstErrorRow : OpenClaim := { program := "ytmnhnbpnjepkbaagreatdoor", sum := "8669fb16c14b68362f593ab8cc275176a3c7ea3842e3eb3f2fb8c724cf7a8870", func := "foresight/foresightlaw05.ParserFirstError", spec := "parserFirstError", unfollowed := true, recurses := true, named := ["foresight/lexer.spans", "foresight/lexer.symbols", "foresight/signal.keys", "strconv.ErrSyntax", "strconv.ErrRange", "internal/strconv.uint64pow10", "math/bits.deBruijn32tab", "math/bits.deBruijn64tab"], apart := false, laid := [("math/bits.deBruijn32tab", laid_math_bits_deBruijn32tab), ("math/bits.deBruijn64tab", laid_math_bits_deBruijn64tab), ("internal/strconv.uint64pow10", laid_internal_strconv_uint64pow10), ("strconv.ErrRange", laid_strconv_ErrRange), ("strconv.ErrSyntax", laid_strconv_ErrSyntax), ("foresight/signal.keys", laid_foresight_signal_keys), ("foresight/lexer.spans", laid_foresight_lexer_spans), ("foresight/lexer.symbols", laid_foresight_lexer_symbols)] }
def ParserFirstErrorSaid : Prop := parserFirstErrorRow.holds Tryz.pinned (OpenSpec.ofChange parserFirstErrorSpec)

/-- ITS FALSE NEIGHBOUR: 'it returns false'. Refute it at one input. -/
def parserFirstErrorWrong : ChangeSpec := { name := "parserFirstError", fn := fun _ => fun
  | [d] => { results := [.lit (.bool false)], args := [d] }
  | _ => none }
def ParserFirstErrorWrongFalsely : Prop := parserFirstErrorRow.holds Tryz.pinned (OpenSpec.ofChange parserFirstErrorWrong)

/-- 'foresightlaw05.ParserParens': WHATEVER THE INPUT: true; the input reads as it did. -/
def parserParensSpec : ChangeSpec := { name := "parserParens", fn := fun _ => fun
  | [d1, d2, d3] => { results := [.lit (.bool true)], args := [d1, d2, d3] }
  | _ => none }
def parserParensRow : OpenClaim := { program := "ytmnhnbpnjepkbaagreatdoor", sum := "8669fb16c14b68362f593ab8cc275176a3c7ea3842e3eb3f2fb8c724cf7a8870", func := "foresight/foresightlaw05.ParserParens", spec := "parserParens", unfollowed := true, recurses := true, named := ["foresight/lexer.spans", "foresight/lexer.symbols", "foresight/signal.keys", "strconv.ErrSyntax", "strconv.ErrRange", "internal/strconv.uint64pow10", "math/bits.deBruijn32tab", "math/bits.deBruijn64tab"], apart := false, laid := [("math/bits.deBruijn32tab", laid_math_bits_deBruijn32tab), ("math/bits.deBruijn64tab", laid_math_bits_deBruijn64tab), ("internal/strconv.uint64pow10", laid_internal_strconv_uint64pow10), ("strconv.ErrRange", laid_strconv_ErrRange), ("strconv.ErrSyntax", laid_strconv_ErrSyntax), ("foresight/signal.keys", laid_foresight_signal_keys), ("foresight/lexer.spans", laid_foresight_lexer_spans), ("foresight/lexer.symbols", laid_foresight_lexer_symbols)] }
def ParserParensSaid : Prop := parserParensRow.holds Tryz.pinned (OpenSpec.ofChange parserParensSpec)

/-- ITS FALSE NEIGHBOUR: 'it returns false'. Refute it at one input. -/
def parserParensWrong : ChangeSpec := { name := "parserParens", fn := fun _ => fun
  | [d1, d2, d3] => { results := [.lit (.bool false)], args := [d1, d2, d3] }
  | _ => none }
def ParserParensWrongFalsely : Prop := parserParensRow.holds Tryz.pinned (OpenSpec.ofChange parserParensWrong)

/-- 'foresightlaw05.ParserChains': WHATEVER THE INPUT: true; the input reads as it did. -/
def parserChainsSpec : ChangeSpec := { name := "parserChains", fn := fun _ => fun
  | [d] => { results := [.lit (.bool true)], args := [d] }
  | _ => none }
def parserChainsRow : OpenClaim := { program := "ytmnhnbpnjepkbaagreatdoor", sum := "8669fb16c14b68362f593ab8cc275176a3c7ea3842e3eb3f2fb8c724cf7a8870", func := "foresight/foresightlaw05.ParserChains", spec := "parserChains", unfollowed := true, recurses := true, named := ["foresight/lexer.spans", "foresight/lexer.symbols", "foresight/signal.keys", "strconv.ErrSyntax", "strconv.ErrRange", "internal/strconv.uint64pow10", "math/bits.deBruijn32tab", "math/bits.deBruijn64tab"], apart := false, laid := [("math/bits.deBruijn32tab", laid_math_bits_deBruijn32tab), ("math/bits.deBruijn64tab", laid_math_bits_deBruijn64tab), ("internal/strconv.uint64pow10", laid_internal_strconv_uint64pow10), ("strconv.ErrRange", laid_strconv_ErrRange), ("strconv.ErrSyntax", laid_strconv_ErrSyntax), ("foresight/signal.keys", laid_foresight_signal_keys), ("foresight/lexer.spans", laid_foresight_lexer_spans), ("foresight/lexer.symbols", laid_foresight_lexer_symbols)] }
def ParserChainsSaid : Prop := parserChainsRow.holds Tryz.pinned (OpenSpec.ofChange parserChainsSpec)

/-- ITS FALSE NEIGHBOUR: 'it returns false'. Refute it at one input. -/
def parserChainsWrong : ChangeSpec := { name := "parserChains", fn := fun _ => fun
  | [d] => { results := [.lit (.bool false)], args := [d] }
  | _ => none }
def ParserChainsWrongFalsely : Prop := parserChainsRow.holds Tryz.pinned (OpenSpec.ofChange parserChainsWrong)

/-- 'foresightlaw05.ParserSpecs': WHATEVER THE INPUT: true; the input reads as it did. -/
def parserSpecsSpec : ChangeSpec := { name := "parserSpecs", fn := fun _ => fun
  | [d1, d2, d3] => { results := [.lit (.bool true)], args := [d1, d2, d3] }
  | _ => none }
def parserSpecsRow : OpenClaim := { program := "ytmnhnbpnjepkbaagreatdoor", sum := "8669fb16c14b68362f593ab8cc275176a3c7ea3842e3eb3f2fb8c724cf7a8870", func := "foresight/foresightlaw05.ParserSpecs", spec := "parserSpecs", unfollowed := true, recurses := true, named := ["foresight/lexer.spans", "foresight/lexer.symbols", "foresight/signal.keys", "strconv.ErrSyntax", "strconv.ErrRange", "internal/strconv.uint64pow10", "math/bits.deBruijn32tab", "math/bits.deBruijn64tab"], apart := false, laid := [("math/bits.deBruijn32tab", laid_math_bits_deBruijn32tab), ("math/bits.deBruijn64tab", laid_math_bits_deBruijn64tab), ("internal/strconv.uint64pow10", laid_internal_strconv_uint64pow10), ("strconv.ErrRange", laid_strconv_ErrRange), ("strconv.ErrSyntax", laid_strconv_ErrSyntax), ("foresight/signal.keys", laid_foresight_signal_keys), ("foresight/lexer.spans", laid_foresight_lexer_spans), ("foresight/lexer.symbols", laid_foresight_lexer_symbols)] }
def ParserSpecsSaid : Prop := parserSpecsRow.holds Tryz.pinned (OpenSpec.ofChange parserSpecsSpec)

/-- ITS FALSE NEIGHBOUR: 'it returns false'. Refute it at one input. -/
def parserSpecsWrong : ChangeSpec := { name := "parserSpecs", fn := fun _ => fun
  | [d1, d2, d3] => { results := [.lit (.bool false)], args := [d1, d2, d3] }
  | _ => none }
def ParserSpecsWrongFalsely : Prop := parserSpecsRow.holds Tryz.pinned (OpenSpec.ofChange parserSpecsWrong)

/-- 'foresightlaw05.ParserKinds': WHATEVER THE INPUT: true; the input reads as it did. -/
def parserKindsSpec : ChangeSpec := { name := "parserKinds", fn := fun _ => fun
  | [d] => { results := [.lit (.bool true)], args := [d] }
  | _ => none }
def parserKindsRow : OpenClaim := { program := "ytmnhnbpnjepkbaagreatdoor", sum := "8669fb16c14b68362f593ab8cc275176a3c7ea3842e3eb3f2fb8c724cf7a8870", func := "foresight/foresightlaw05.ParserKinds", spec := "parserKinds", unfollowed := true, recurses := true, named := ["foresight/lexer.spans", "foresight/lexer.symbols", "foresight/signal.keys", "strconv.ErrSyntax", "strconv.ErrRange", "internal/strconv.uint64pow10", "math/bits.deBruijn32tab", "math/bits.deBruijn64tab"], apart := false, laid := [("math/bits.deBruijn32tab", laid_math_bits_deBruijn32tab), ("math/bits.deBruijn64tab", laid_math_bits_deBruijn64tab), ("internal/strconv.uint64pow10", laid_internal_strconv_uint64pow10), ("strconv.ErrRange", laid_strconv_ErrRange), ("strconv.ErrSyntax", laid_strconv_ErrSyntax), ("foresight/signal.keys", laid_foresight_signal_keys), ("foresight/lexer.spans", laid_foresight_lexer_spans), ("foresight/lexer.symbols", laid_foresight_lexer_symbols)] }
def ParserKindsSaid : Prop := parserKindsRow.holds Tryz.pinned (OpenSpec.ofChange parserKindsSpec)

/-- ITS FALSE NEIGHBOUR: 'it returns false'. Refute it at one input. -/
def parserKindsWrong : ChangeSpec := { name := "parserKinds", fn := fun _ => fun
  | [d] => { results := [.lit (.bool false)], args := [d] }
  | _ => none }
def ParserKindsWrongFalsely : Prop := parserKindsRow.holds Tryz.pinned (OpenSpec.ofChange parserKindsWrong)

/- THE SECOND FORM. 'bulk': how many values and letters a reading holds, each counted each time it is reached (what is shared counts as often as it is met; a slice's spare places count too). A statement '..UptoSaid' is the law's where the arguments, and the package variables that the reading takes, are together of bulk at most 1048576: NARROWER than '..Said'. Prove '..Said' where nothing that the law and all that it calls make is longer than what came in: it says more and counts as full. Else prove '..UptoSaid'. A law counts once. -/
mutual
def uptoBulk {H : Type} : DataW H → Nat
  | .lit (.string bytes) => bytes.length + 1
  | .lit _ => 1
  | .nil => 1
  | .ptr d => uptoBulk d + 1
  | .slice elems spare => uptoBulkAll elems + uptoBulkAll spare + 1
  | .agg parts => uptoBulkAll parts + 1
  | .iface _ d => uptoBulk d + 1
  | .map entries => uptoBulkEntries entries + 1
  | .held _ => 1
def uptoBulkAll {H : Type} : List (DataW H) → Nat
  | [] => 0
  | d :: r => uptoBulk d + uptoBulkAll r
def uptoBulkEntries {H : Type} : List (Lit × DataW H) → Nat
  | [] => 0
  | x :: r => uptoBulkEntry x + uptoBulkEntries r
def uptoBulkEntry {H : Type} : Lit × DataW H → Nat
  | (.string bytes, d) => bytes.length + uptoBulk d + 1
  | (_, d) => uptoBulk d + 1
 end
def uptoSmall : (H : Type) → List (DataW H) → Bool := fun _ ds => decide (uptoBulkAll ds ≤ 1048576)
def OpenSpec.upto (s : _root_.Go.ChangeSpec) : _root_.Go.OpenSpec := { _root_.Go.OpenSpec.ofChange s with cond := some uptoSmall }

/-- 'foresightlaw05.ParserGaps', WHERE WHAT IT READS IS OF BULK AT MOST 1048576: true; the input reads as it did. -/
def parserGapsUptoRow : OpenClaim := { program := "ytmnhnbpnjepkbaagreatdoor", sum := "8669fb16c14b68362f593ab8cc275176a3c7ea3842e3eb3f2fb8c724cf7a8870", func := "foresight/foresightlaw05.ParserGaps", spec := "parserGaps", unfollowed := true, recurses := true, named := ["foresight/lexer.spans", "foresight/lexer.symbols", "foresight/signal.keys", "strconv.ErrSyntax", "strconv.ErrRange", "internal/strconv.uint64pow10", "math/bits.deBruijn32tab", "math/bits.deBruijn64tab"], apart := false, laid := [("math/bits.deBruijn32tab", laid_math_bits_deBruijn32tab), ("math/bits.deBruijn64tab", laid_math_bits_deBruijn64tab), ("internal/strconv.uint64pow10", laid_internal_strconv_uint64pow10), ("strconv.ErrRange", laid_strconv_ErrRange), ("strconv.ErrSyntax", laid_strconv_ErrSyntax), ("foresight/signal.keys", laid_foresight_signal_keys), ("foresight/lexer.spans", laid_foresight_lexer_spans), ("foresight/lexer.symbols", laid_foresight_lexer_symbols)], narrowed := true }
def ParserGapsUptoSaid : Prop := parserGapsUptoRow.holds Tryz.pinned (OpenSpec.upto parserGapsSpec)

/-- 'foresightlaw05.ParserFirstError', WHERE WHAT IT READS IS OF BULK AT MOST 1048576: true; the input reads as it did. -/
def parserFirstErrorUptoRow : OpenClaim := { program := "ytmnhnbpnjepkbaagreatdoor", sum := "8669fb16c14b68362f593ab8cc275176a3c7ea3842e3eb3f2fb8c724cf7a8870", func := "foresight/foresightlaw05.ParserFirstError", spec := "parserFirstError", unfollowed := true, recurses := true, named := ["foresight/lexer.spans", "foresight/lexer.symbols", "foresight/signal.keys", "strconv.ErrSyntax", "strconv.ErrRange", "internal/strconv.uint64pow10", "math/bits.deBruijn32tab", "math/bits.deBruijn64tab"], apart := false, laid := [("math/bits.deBruijn32tab", laid_math_bits_deBruijn32tab), ("math/bits.deBruijn64tab", laid_math_bits_deBruijn64tab), ("internal/strconv.uint64pow10", laid_internal_strconv_uint64pow10), ("strconv.ErrRange", laid_strconv_ErrRange), ("strconv.ErrSyntax", laid_strconv_ErrSyntax), ("foresight/signal.keys", laid_foresight_signal_keys), ("foresight/lexer.spans", laid_foresight_lexer_spans), ("foresight/lexer.symbols", laid_foresight_lexer_symbols)], narrowed := true }
def ParserFirstErrorUptoSaid : Prop := parserFirstErrorUptoRow.holds Tryz.pinned (OpenSpec.upto parserFirstErrorSpec)

/-- 'foresightlaw05.ParserParens', WHERE WHAT IT READS IS OF BULK AT MOST 1048576: true; the input reads as it did. -/
def parserParensUptoRow : OpenClaim := { program := "ytmnhnbpnjepkbaagreatdoor", sum := "8669fb16c14b68362f593ab8cc275176a3c7ea3842e3eb3f2fb8c724cf7a8870", func := "foresight/foresightlaw05.ParserParens", spec := "parserParens", unfollowed := true, recurses := true, named := ["foresight/lexer.spans", "foresight/lexer.symbols", "foresight/signal.keys", "strconv.ErrSyntax", "strconv.ErrRange", "internal/strconv.uint64pow10", "math/bits.deBruijn32tab", "math/bits.deBruijn64tab"], apart := false, laid := [("math/bits.deBruijn32tab", laid_math_bits_deBruijn32tab), ("math/bits.deBruijn64tab", laid_math_bits_deBruijn64tab), ("internal/strconv.uint64pow10", laid_internal_strconv_uint64pow10), ("strconv.ErrRange", laid_strconv_ErrRange), ("strconv.ErrSyntax", laid_strconv_ErrSyntax), ("foresight/signal.keys", laid_foresight_signal_keys), ("foresight/lexer.spans", laid_foresight_lexer_spans), ("foresight/lexer.symbols", laid_foresight_lexer_symbols)], narrowed := true }
def ParserParensUptoSaid : Prop := parserParensUptoRow.holds Tryz.pinned (OpenSpec.upto parserParensSpec)

/-- 'foresightlaw05.ParserChains', WHERE WHAT IT READS IS OF BULK AT MOST 1048576: true; the input reads as it did. -/
def parserChainsUptoRow : OpenClaim := { program := "ytmnhnbpnjepkbaagreatdoor", sum := "8669fb16c14b68362f593ab8cc275176a3c7ea3842e3eb3f2fb8c724cf7a8870", func := "foresight/foresightlaw05.ParserChains", spec := "parserChains", unfollowed := true, recurses := true, named := ["foresight/lexer.spans", "foresight/lexer.symbols", "foresight/signal.keys", "strconv.ErrSyntax", "strconv.ErrRange", "internal/strconv.uint64pow10", "math/bits.deBruijn32tab", "math/bits.deBruijn64tab"], apart := false, laid := [("math/bits.deBruijn32tab", laid_math_bits_deBruijn32tab), ("math/bits.deBruijn64tab", laid_math_bits_deBruijn64tab), ("internal/strconv.uint64pow10", laid_internal_strconv_uint64pow10), ("strconv.ErrRange", laid_strconv_ErrRange), ("strconv.ErrSyntax", laid_strconv_ErrSyntax), ("foresight/signal.keys", laid_foresight_signal_keys), ("foresight/lexer.spans", laid_foresight_lexer_spans), ("foresight/lexer.symbols", laid_foresight_lexer_symbols)], narrowed := true }
def ParserChainsUptoSaid : Prop := parserChainsUptoRow.holds Tryz.pinned (OpenSpec.upto parserChainsSpec)

/-- 'foresightlaw05.ParserSpecs', WHERE WHAT IT READS IS OF BULK AT MOST 1048576: true; the input reads as it did. -/
def parserSpecsUptoRow : OpenClaim := { program := "ytmnhnbpnjepkbaagreatdoor", sum := "8669fb16c14b68362f593ab8cc275176a3c7ea3842e3eb3f2fb8c724cf7a8870", func := "foresight/foresightlaw05.ParserSpecs", spec := "parserSpecs", unfollowed := true, recurses := true, named := ["foresight/lexer.spans", "foresight/lexer.symbols", "foresight/signal.keys", "strconv.ErrSyntax", "strconv.ErrRange", "internal/strconv.uint64pow10", "math/bits.deBruijn32tab", "math/bits.deBruijn64tab"], apart := false, laid := [("math/bits.deBruijn32tab", laid_math_bits_deBruijn32tab), ("math/bits.deBruijn64tab", laid_math_bits_deBruijn64tab), ("internal/strconv.uint64pow10", laid_internal_strconv_uint64pow10), ("strconv.ErrRange", laid_strconv_ErrRange), ("strconv.ErrSyntax", laid_strconv_ErrSyntax), ("foresight/signal.keys", laid_foresight_signal_keys), ("foresight/lexer.spans", laid_foresight_lexer_spans), ("foresight/lexer.symbols", laid_foresight_lexer_symbols)], narrowed := true }
def ParserSpecsUptoSaid : Prop := parserSpecsUptoRow.holds Tryz.pinned (OpenSpec.upto parserSpecsSpec)

/-- 'foresightlaw05.ParserKinds', WHERE WHAT IT READS IS OF BULK AT MOST 1048576: true; the input reads as it did. -/
def parserKindsUptoRow : OpenClaim := { program := "ytmnhnbpnjepkbaagreatdoor", sum := "8669fb16c14b68362f593ab8cc275176a3c7ea3842e3eb3f2fb8c724cf7a8870", func := "foresight/foresightlaw05.ParserKinds", spec := "parserKinds", unfollowed := true, recurses := true, named := ["foresight/lexer.spans", "foresight/lexer.symbols", "foresight/signal.keys", "strconv.ErrSyntax", "strconv.ErrRange", "internal/strconv.uint64pow10", "math/bits.deBruijn32tab", "math/bits.deBruijn64tab"], apart := false, laid := [("math/bits.deBruijn32tab", laid_math_bits_deBruijn32tab), ("math/bits.deBruijn64tab", laid_math_bits_deBruijn64tab), ("internal/strconv.uint64pow10", laid_internal_strconv_uint64pow10), ("strconv.ErrRange", laid_strconv_ErrRange), ("strconv.ErrSyntax", laid_strconv_ErrSyntax), ("foresight/signal.keys", laid_foresight_signal_keys), ("foresight/lexer.spans", laid_foresight_lexer_spans), ("foresight/lexer.symbols", laid_foresight_lexer_symbols)], narrowed := true }
def ParserKindsUptoSaid : Prop := parserKindsUptoRow.holds Tryz.pinned (OpenSpec.upto parserKindsSpec)

end Rows
end Go.Proofs.YtmnhnbpnjepkbaaGreatDoor
