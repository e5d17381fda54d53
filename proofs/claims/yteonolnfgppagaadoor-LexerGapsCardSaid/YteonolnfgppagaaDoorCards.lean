/-
  DERIVED. GIVEN WITH THE SEED: THE CARDS: each row of YteonolnfgppagaaDoorRows.lean that lists a variable, with what it lists TIED to the program's text (the seventh form; the later family's looks); each row that meets fmt, with fmt's text TOLD by the authors' own Lean function (tested against real Go, not proved from fmt's source: count such statements apart). THE CARD IS WHAT COUNTS. Prove the row's statement (the work); the ties are given (YteonolnfgppagaaDoorTie.lean); close each card by the builder's one call (the guide's Derived/Test/ToyasCard.lean, 'card_holds'). Laid BY PROGRAM, IN A SANDBOX (cutbox-door.mjs). By AI agents, Wed Nov 11 2026. No macro, syntax, notation, axiom, sorry.
-/
import Derived.Test.YteonolnfgppagaaDoorRows
import GoSem.ClaimSeven
namespace Go.Proofs.YteonolnfgppagaaDoor
namespace Rows

/-- THE TIED CARD OF 'foresightlaw04.LexerCovers'. -/
def lexerCoversCard : Claim7 := { stood := { row := lexerCoversRow, standIns := [], harness := (true, "21bf5c4f441cd1016488558c556bef738cebbf507d47fc02b1137e597832235a"), looks := true }, kinds := [], alts := [], laidByText := true, laidKinds := [.data, .data], laidTests := true, laidLooks := .later }
def LexerCoversCardSaid : Prop := Claim7.holds Tryd.pinned (.plain (OpenSpec.ofChange lexerCoversSpec)) lexerCoversCard

/-- THE TIED CARD OF 'foresightlaw04.LexerGaps'. -/
def lexerGapsCard : Claim7 := { stood := { row := lexerGapsRow, standIns := [], harness := (true, "21bf5c4f441cd1016488558c556bef738cebbf507d47fc02b1137e597832235a"), looks := true }, kinds := [], alts := [], laidByText := true, laidKinds := [.data, .data], laidTests := true, laidLooks := .later }
def LexerGapsCardSaid : Prop := Claim7.holds Tryd.pinned (.plain (OpenSpec.ofChange lexerGapsSpec)) lexerGapsCard

/-- THE TIED CARD OF 'foresightlaw04.LexerConcatenation'. -/
def lexerConcatenationCard : Claim7 := { stood := { row := lexerConcatenationRow, standIns := [], harness := (true, "21bf5c4f441cd1016488558c556bef738cebbf507d47fc02b1137e597832235a"), looks := true }, kinds := [], alts := [], laidByText := true, laidKinds := [.data, .data], laidTests := true, laidLooks := .later }
def LexerConcatenationCardSaid : Prop := Claim7.holds Tryd.pinned (.plain (OpenSpec.ofChange lexerConcatenationSpec)) lexerConcatenationCard

/-- THE TIED CARD OF 'foresightlaw04.LexerErrors'. -/
def lexerErrorsCard : Claim7 := { stood := { row := lexerErrorsRow, standIns := [], harness := (true, "21bf5c4f441cd1016488558c556bef738cebbf507d47fc02b1137e597832235a"), looks := true }, kinds := [], alts := [], laidByText := true, laidKinds := [.data, .data], laidTests := true, laidLooks := .later }
def LexerErrorsCardSaid : Prop := Claim7.holds Tryd.pinned (.plain (OpenSpec.ofChange lexerErrorsSpec)) lexerErrorsCard

/-- THE TIED CARD OF 'foresightlaw04.LexerLate'. -/
def lexerLateCard : Claim7 := { stood := { row := lexerLateRow, standIns := [], harness := (true, "21bf5c4f441cd1016488558c556bef738cebbf507d47fc02b1137e597832235a"), looks := true }, kinds := [], alts := [], laidByText := true, laidKinds := [.data, .data], laidTests := true, laidLooks := .later }
def LexerLateCardSaid : Prop := Claim7.holds Tryd.pinned (.plain (OpenSpec.ofChange lexerLateSpec)) lexerLateCard

/-- THE SECOND FORM's CARD OF 'foresightlaw04.LexerCovers'. -/
def lexerCoversUptoCard : Claim7 := { stood := { row := lexerCoversUptoRow, standIns := [], harness := (true, "21bf5c4f441cd1016488558c556bef738cebbf507d47fc02b1137e597832235a"), looks := true }, kinds := [], alts := [], laidByText := true, laidKinds := [.data, .data], laidTests := true, laidLooks := .later }
def LexerCoversUptoCardSaid : Prop := Claim7.holds Tryd.pinned (.plain (OpenSpec.upto lexerCoversSpec)) lexerCoversUptoCard

/-- THE SECOND FORM's CARD OF 'foresightlaw04.LexerGaps'. -/
def lexerGapsUptoCard : Claim7 := { stood := { row := lexerGapsUptoRow, standIns := [], harness := (true, "21bf5c4f441cd1016488558c556bef738cebbf507d47fc02b1137e597832235a"), looks := true }, kinds := [], alts := [], laidByText := true, laidKinds := [.data, .data], laidTests := true, laidLooks := .later }
def LexerGapsUptoCardSaid : Prop := Claim7.holds Tryd.pinned (.plain (OpenSpec.upto lexerGapsSpec)) lexerGapsUptoCard

/-- THE SECOND FORM's CARD OF 'foresightlaw04.LexerConcatenation'. -/
def lexerConcatenationUptoCard : Claim7 := { stood := { row := lexerConcatenationUptoRow, standIns := [], harness := (true, "21bf5c4f441cd1016488558c556bef738cebbf507d47fc02b1137e597832235a"), looks := true }, kinds := [], alts := [], laidByText := true, laidKinds := [.data, .data], laidTests := true, laidLooks := .later }
def LexerConcatenationUptoCardSaid : Prop := Claim7.holds Tryd.pinned (.plain (OpenSpec.upto lexerConcatenationSpec)) lexerConcatenationUptoCard

/-- THE SECOND FORM's CARD OF 'foresightlaw04.LexerErrors'. -/
def lexerErrorsUptoCard : Claim7 := { stood := { row := lexerErrorsUptoRow, standIns := [], harness := (true, "21bf5c4f441cd1016488558c556bef738cebbf507d47fc02b1137e597832235a"), looks := true }, kinds := [], alts := [], laidByText := true, laidKinds := [.data, .data], laidTests := true, laidLooks := .later }
def LexerErrorsUptoCardSaid : Prop := Claim7.holds Tryd.pinned (.plain (OpenSpec.upto lexerErrorsSpec)) lexerErrorsUptoCard

/-- THE SECOND FORM's CARD OF 'foresightlaw04.LexerLate'. -/
def lexerLateUptoCard : Claim7 := { stood := { row := lexerLateUptoRow, standIns := [], harness := (true, "21bf5c4f441cd1016488558c556bef738cebbf507d47fc02b1137e597832235a"), looks := true }, kinds := [], alts := [], laidByText := true, laidKinds := [.data, .data], laidTests := true, laidLooks := .later }
def LexerLateUptoCardSaid : Prop := Claim7.holds Tryd.pinned (.plain (OpenSpec.upto lexerLateSpec)) lexerLateUptoCard
end Rows
end Go.Proofs.YteonolnfgppagaaDoor
