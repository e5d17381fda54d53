/-
  DERIVED. GIVEN WITH THE SEED: THE CARDS: each row of YtohodbnnhlddpaaGreatDoorRows.lean that lists a variable, with what it lists TIED to the program's text (the seventh form; the later family's looks); each row that meets fmt, with fmt's text TOLD by the authors' own Lean function (tested against real Go, not proved from fmt's source: count such statements apart). THE CARD IS WHAT COUNTS. Prove the row's statement (the work); the ties are given (YtohodbnnhlddpaaGreatDoorTie.lean); close each card by the builder's one call (the guide's Derived/Test/ToyasCard.lean, 'card_holds'). Laid BY PROGRAM, IN A SANDBOX (cutbox-door.mjs). By AI agents, Wed Nov 11 2026. No macro, syntax, notation, axiom, sorry.
-/
import Derived.Test.YtohodbnnhlddpaaGreatDoorRows
import GoSem.ClaimSeven
namespace Go.Proofs.YtohodbnnhlddpaaGreatDoor
namespace Rows

/-- THE TIED CARD OF 'foresighttop.TopOwedOnce'. -/
def topOwedOnceCard : Claim7 := { stood := { row := topOwedOnceRow, standIns := [], harness := (true, "fcab98667506a181550ac93c7f272d89e39adaeff043aec1b5a570dd675d9d4c"), looks := true }, kinds := [], alts := [], laidByText := true, laidKinds := [.data, .data, .data, .sentinel, .sentinel, .data, .data, .data, .data], laidTests := true, laidLooks := .later }
def TopOwedOnceCardSaid : Prop := Claim7.holds Tryz.pinned (.plain (OpenSpec.ofChange topOwedOnceSpec)) topOwedOnceCard

/-- THE TIED CARD OF 'foresighttop.TopGoalsGoOn'. -/
def topGoalsGoOnCard : Claim7 := { stood := { row := topGoalsGoOnRow, standIns := [], harness := (true, "fcab98667506a181550ac93c7f272d89e39adaeff043aec1b5a570dd675d9d4c"), looks := true }, kinds := [], alts := [], laidByText := true, laidKinds := [.data, .data, .data, .sentinel, .sentinel, .data, .data, .data, .data], laidTests := true, laidLooks := .later }
def TopGoalsGoOnCardSaid : Prop := Claim7.holds Tryz.pinned (.plain (OpenSpec.ofChange topGoalsGoOnSpec)) topGoalsGoOnCard

/-- THE SECOND FORM's CARD OF 'foresighttop.TopOwedOnce'. -/
def topOwedOnceUptoCard : Claim7 := { stood := { row := topOwedOnceUptoRow, standIns := [], harness := (true, "fcab98667506a181550ac93c7f272d89e39adaeff043aec1b5a570dd675d9d4c"), looks := true }, kinds := [], alts := [], laidByText := true, laidKinds := [.data, .data, .data, .sentinel, .sentinel, .data, .data, .data, .data], laidTests := true, laidLooks := .later }
def TopOwedOnceUptoCardSaid : Prop := Claim7.holds Tryz.pinned (.plain (OpenSpec.upto topOwedOnceSpec)) topOwedOnceUptoCard

/-- THE SECOND FORM's CARD OF 'foresighttop.TopGoalsGoOn'. -/
def topGoalsGoOnUptoCard : Claim7 := { stood := { row := topGoalsGoOnUptoRow, standIns := [], harness := (true, "fcab98667506a181550ac93c7f272d89e39adaeff043aec1b5a570dd675d9d4c"), looks := true }, kinds := [], alts := [], laidByText := true, laidKinds := [.data, .data, .data, .sentinel, .sentinel, .data, .data, .data, .data], laidTests := true, laidLooks := .later }
def TopGoalsGoOnUptoCardSaid : Prop := Claim7.holds Tryz.pinned (.plain (OpenSpec.upto topGoalsGoOnSpec)) topGoalsGoOnUptoCard
end Rows
end Go.Proofs.YtohodbnnhlddpaaGreatDoor
