/-
  DERIVED. GIVEN WITH THE SEED: THE CARDS: each row of YtkhhjdjmhbdjfaaGreatDoorRows.lean that lists a variable, with what it lists TIED to the program's text (the seventh form; the later family's looks); each row that meets fmt, with fmt's text TOLD by the authors' own Lean function (tested against real Go, not proved from fmt's source: count such statements apart). THE CARD IS WHAT COUNTS. Prove the row's statement (the work); the ties are given (YtkhhjdjmhbdjfaaGreatDoorTie.lean); close each card by the builder's one call (the guide's Derived/Test/ToyasCard.lean, 'card_holds'). Laid BY PROGRAM, IN A SANDBOX (cutbox-door.mjs). By AI agents, Wed Nov 11 2026. No macro, syntax, notation, axiom, sorry.
-/
import Derived.Test.YtkhhjdjmhbdjfaaGreatDoorRows
import GoSem.ClaimSeven
namespace Go.Proofs.YtkhhjdjmhbdjfaaGreatDoor
namespace Rows

/-- THE TIED CARD OF 'foresighttop.TopAged'. -/
def topAgedCard : Claim7 := { stood := { row := topAgedRow, standIns := [], harness := (true, "8d11b7cb9545970f0fda6686cade4b28d4b8a6c5bd11b9500c7b7d8a042be1af"), looks := false }, kinds := [], alts := [], laidByText := true, laidKinds := [.data, .data], laidTests := true, laidLooks := .later }
def TopAgedCardSaid : Prop := Claim7.holds Tryz.pinned (.plain (OpenSpec.ofChange topAgedSpec)) topAgedCard

/-- THE SECOND FORM's CARD OF 'foresighttop.TopAged'. -/
def topAgedUptoCard : Claim7 := { stood := { row := topAgedUptoRow, standIns := [], harness := (true, "8d11b7cb9545970f0fda6686cade4b28d4b8a6c5bd11b9500c7b7d8a042be1af"), looks := false }, kinds := [], alts := [], laidByText := true, laidKinds := [.data, .data], laidTests := true, laidLooks := .later }
def TopAgedUptoCardSaid : Prop := Claim7.holds Tryz.pinned (.plain (OpenSpec.upto topAgedSpec)) topAgedUptoCard
end Rows
end Go.Proofs.YtkhhjdjmhbdjfaaGreatDoor
