/-
  DERIVED. GIVEN WITH THE SEED: THE CARDS: each row of YtmnhnbpnjepkbaaGreatDoorRows.lean that lists a variable, with what it lists TIED to the program's text (the seventh form; the later family's looks); each row that meets fmt, with fmt's text TOLD by the authors' own Lean function (tested against real Go, not proved from fmt's source: count such statements apart). THE CARD IS WHAT COUNTS. Prove the row's statement (the work); the ties are given (YtmnhnbpnjepkbaaGreatDoorTie.lean); close each card by the builder's one call (the guide's Derived/Test/ToyasCard.lean, 'card_holds'). Laid BY PROGRAM, IN A SANDBOX (cutbox-door.mjs). By AI agents, Wed Nov 11 2026. No macro, syntax, notation, axiom, sorry.
-/
import Derived.Test.YtmnhnbpnjepkbaaGreatDoorRows
import GoSem.ClaimSeven
namespace Go.Proofs.YtmnhnbpnjepkbaaGreatDoor
namespace Rows

/-- THE TIED CARD OF 'foresightlaw05.ParserGaps'. -/
def parserGapsCard : Claim7 := { stood := { row := parserGapsRow, standIns := [], harness := (true, "ad96443e8e9e76ad4ca48de19d7ff41e7fe46603ae00452f7a1d0f9863c9a0c5"), looks := true }, kinds := [], alts := [], laidByText := true, laidKinds := [.data, .data, .data, .sentinel, .sentinel, .data, .data, .data], laidTests := true, laidLooks := .later }
def ParserGapsCardSaid : Prop := Claim7.holds Tryz.pinned (.plain (OpenSpec.ofChange parserGapsSpec)) parserGapsCard

/-- THE TIED CARD OF 'foresightlaw05.ParserFirstError'. -/
def parserFirstErrorCard : Claim7 := { stood := { row := parserFirstErrorRow, standIns := [], harness := (true, "ad96443e8e9e76ad4ca48de19d7ff41e7fe46603ae00452f7a1d0f9863c9a0c5"), looks := true }, kinds := [], alts := [], laidByText := true, laidKinds := [.data, .data, .data, .sentinel, .sentinel, .data, .data, .data], laidTests := true, laidLooks := .later }
def ParserFirstErrorCardSaid : Prop := Claim7.holds Tryz.pinned (.plain (OpenSpec.ofChange parserFirstErrorSpec)) parserFirstErrorCard

/-- THE TIED CARD OF 'foresightlaw05.ParserParens'. -/
def parserParensCard : Claim7 := { stood := { row := parserParensRow, standIns := [], harness := (true, "ad96443e8e9e76ad4ca48de19d7ff41e7fe46603ae00452f7a1d0f9863c9a0c5"), looks := true }, kinds := [], alts := [], laidByText := true, laidKinds := [.data, .data, .data, .sentinel, .sentinel, .data, .data, .data], laidTests := true, laidLooks := .later }
def ParserParensCardSaid : Prop := Claim7.holds Tryz.pinned (.plain (OpenSpec.ofChange parserParensSpec)) parserParensCard

/-- THE TIED CARD OF 'foresightlaw05.ParserChains'. -/
def parserChainsCard : Claim7 := { stood := { row := parserChainsRow, standIns := [], harness := (true, "ad96443e8e9e76ad4ca48de19d7ff41e7fe46603ae00452f7a1d0f9863c9a0c5"), looks := true }, kinds := [], alts := [], laidByText := true, laidKinds := [.data, .data, .data, .sentinel, .sentinel, .data, .data, .data], laidTests := true, laidLooks := .later }
def ParserChainsCardSaid : Prop := Claim7.holds Tryz.pinned (.plain (OpenSpec.ofChange parserChainsSpec)) parserChainsCard

/-- THE TIED CARD OF 'foresightlaw05.ParserSpecs'. -/
def parserSpecsCard : Claim7 := { stood := { row := parserSpecsRow, standIns := [], harness := (true, "ad96443e8e9e76ad4ca48de19d7ff41e7fe46603ae00452f7a1d0f9863c9a0c5"), looks := true }, kinds := [], alts := [], laidByText := true, laidKinds := [.data, .data, .data, .sentinel, .sentinel, .data, .data, .data], laidTests := true, laidLooks := .later }
def ParserSpecsCardSaid : Prop := Claim7.holds Tryz.pinned (.plain (OpenSpec.ofChange parserSpecsSpec)) parserSpecsCard

/-- THE TIED CARD OF 'foresightlaw05.ParserKinds'. -/
def parserKindsCard : Claim7 := { stood := { row := parserKindsRow, standIns := [], harness := (true, "ad96443e8e9e76ad4ca48de19d7ff41e7fe46603ae00452f7a1d0f9863c9a0c5"), looks := true }, kinds := [], alts := [], laidByText := true, laidKinds := [.data, .data, .data, .sentinel, .sentinel, .data, .data, .data], laidTests := true, laidLooks := .later }
def ParserKindsCardSaid : Prop := Claim7.holds Tryz.pinned (.plain (OpenSpec.ofChange parserKindsSpec)) parserKindsCard

/-- THE SECOND FORM's CARD OF 'foresightlaw05.ParserGaps'. -/
def parserGapsUptoCard : Claim7 := { stood := { row := parserGapsUptoRow, standIns := [], harness := (true, "ad96443e8e9e76ad4ca48de19d7ff41e7fe46603ae00452f7a1d0f9863c9a0c5"), looks := true }, kinds := [], alts := [], laidByText := true, laidKinds := [.data, .data, .data, .sentinel, .sentinel, .data, .data, .data], laidTests := true, laidLooks := .later }
def ParserGapsUptoCardSaid : Prop := Claim7.holds Tryz.pinned (.plain (OpenSpec.upto parserGapsSpec)) parserGapsUptoCard

/-- THE SECOND FORM's CARD OF 'foresightlaw05.ParserFirstError'. -/
def parserFirstErrorUptoCard : Claim7 := { stood := { row := parserFirstErrorUptoRow, standIns := [], harness := (true, "ad96443e8e9e76ad4ca48de19d7ff41e7fe46603ae00452f7a1d0f9863c9a0c5"), looks := true }, kinds := [], alts := [], laidByText := true, laidKinds := [.data, .data, .data, .sentinel, .sentinel, .data, .data, .data], laidTests := true, laidLooks := .later }
def ParserFirstErrorUptoCardSaid : Prop := Claim7.holds Tryz.pinned (.plain (OpenSpec.upto parserFirstErrorSpec)) parserFirstErrorUptoCard

/-- THE SECOND FORM's CARD OF 'foresightlaw05.ParserParens'. -/
def parserParensUptoCard : Claim7 := { stood := { row := parserParensUptoRow, standIns := [], harness := (true, "ad96443e8e9e76ad4ca48de19d7ff41e7fe46603ae00452f7a1d0f9863c9a0c5"), looks := true }, kinds := [], alts := [], laidByText := true, laidKinds := [.data, .data, .data, .sentinel, .sentinel, .data, .data, .data], laidTests := true, laidLooks := .later }
def ParserParensUptoCardSaid : Prop := Claim7.holds Tryz.pinned (.plain (OpenSpec.upto parserParensSpec)) parserParensUptoCard

/-- THE SECOND FORM's CARD OF 'foresightlaw05.ParserChains'. -/
def parserChainsUptoCard : Claim7 := { stood := { row := parserChainsUptoRow, standIns := [], harness := (true, "ad96443e8e9e76ad4ca48de19d7ff41e7fe46603ae00452f7a1d0f9863c9a0c5"), looks := true }, kinds := [], alts := [], laidByText := true, laidKinds := [.data, .data, .data, .sentinel, .sentinel, .data, .data, .data], laidTests := true, laidLooks := .later }
def ParserChainsUptoCardSaid : Prop := Claim7.holds Tryz.pinned (.plain (OpenSpec.upto parserChainsSpec)) parserChainsUptoCard

/-- THE SECOND FORM's CARD OF 'foresightlaw05.ParserSpecs'. -/
def parserSpecsUptoCard : Claim7 := { stood := { row := parserSpecsUptoRow, standIns := [], harness := (true, "ad96443e8e9e76ad4ca48de19d7ff41e7fe46603ae00452f7a1d0f9863c9a0c5"), looks := true }, kinds := [], alts := [], laidByText := true, laidKinds := [.data, .data, .data, .sentinel, .sentinel, .data, .data, .data], laidTests := true, laidLooks := .later }
def ParserSpecsUptoCardSaid : Prop := Claim7.holds Tryz.pinned (.plain (OpenSpec.upto parserSpecsSpec)) parserSpecsUptoCard

/-- THE SECOND FORM's CARD OF 'foresightlaw05.ParserKinds'. -/
def parserKindsUptoCard : Claim7 := { stood := { row := parserKindsUptoRow, standIns := [], harness := (true, "ad96443e8e9e76ad4ca48de19d7ff41e7fe46603ae00452f7a1d0f9863c9a0c5"), looks := true }, kinds := [], alts := [], laidByText := true, laidKinds := [.data, .data, .data, .sentinel, .sentinel, .data, .data, .data], laidTests := true, laidLooks := .later }
def ParserKindsUptoCardSaid : Prop := Claim7.holds Tryz.pinned (.plain (OpenSpec.upto parserKindsSpec)) parserKindsUptoCard
end Rows
end Go.Proofs.YtmnhnbpnjepkbaaGreatDoor
