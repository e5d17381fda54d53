/-
  DERIVED. GIVEN WITH THE SEED: THE CARDS: each row of YtjbocjodncbogaaGreatDoorRows.lean that lists a variable, with what it lists TIED to the program's text (the seventh form; the later family's looks); each row that meets fmt, with fmt's text TOLD by the authors' own Lean function (tested against real Go, not proved from fmt's source: count such statements apart). THE CARD IS WHAT COUNTS. Prove the row's statement (the work); the ties are given (YtjbocjodncbogaaGreatDoorTie.lean); close each card by the builder's one call (the guide's Derived/Test/ToyasCard.lean, 'card_holds'). Laid BY PROGRAM, IN A SANDBOX (cutbox-door.mjs). By AI agents, Wed Nov 11 2026. No macro, syntax, notation, axiom, sorry.
-/
import Derived.Test.YtjbocjodncbogaaGreatDoorRows
import GoSem.ClaimSeven
namespace Go.Proofs.YtjbocjodncbogaaGreatDoor
namespace Rows

/-- THE TIED CARD OF 'foresighttop.TopTextGoals'. -/
def topTextGoalsCard : Claim7 := { stood := { row := topTextGoalsRow, standIns := [], harness := (true, "6b14a322da1b4f8e835cbdc5c8433997ba726a8cb94cb3ad584b9bcb88d357aa"), looks := true }, kinds := [], alts := [], laidByText := true, laidKinds := [.data, .data, .data, .sentinel, .sentinel, .data, .data, .data, .data], laidTests := true, laidLooks := .later }
def TopTextGoalsCardSaid : Prop := Claim7.holds Tryz.pinned (.plain (OpenSpec.ofChange topTextGoalsSpec)) topTextGoalsCard

/-- THE TIED CARD OF 'foresighttop.TopTextDuties'. -/
def topTextDutiesCard : Claim7 := { stood := { row := topTextDutiesRow, standIns := [], harness := (true, "6b14a322da1b4f8e835cbdc5c8433997ba726a8cb94cb3ad584b9bcb88d357aa"), looks := true }, kinds := [], alts := [], laidByText := true, laidKinds := [.data, .data, .data, .sentinel, .sentinel, .data, .data, .data, .data], laidTests := true, laidLooks := .later }
def TopTextDutiesCardSaid : Prop := Claim7.holds Tryz.pinned (.plain (OpenSpec.ofChange topTextDutiesSpec)) topTextDutiesCard

/-- THE SECOND FORM's CARD OF 'foresighttop.TopTextGoals'. -/
def topTextGoalsUptoCard : Claim7 := { stood := { row := topTextGoalsUptoRow, standIns := [], harness := (true, "6b14a322da1b4f8e835cbdc5c8433997ba726a8cb94cb3ad584b9bcb88d357aa"), looks := true }, kinds := [], alts := [], laidByText := true, laidKinds := [.data, .data, .data, .sentinel, .sentinel, .data, .data, .data, .data], laidTests := true, laidLooks := .later }
def TopTextGoalsUptoCardSaid : Prop := Claim7.holds Tryz.pinned (.plain (OpenSpec.upto topTextGoalsSpec)) topTextGoalsUptoCard

/-- THE SECOND FORM's CARD OF 'foresighttop.TopTextDuties'. -/
def topTextDutiesUptoCard : Claim7 := { stood := { row := topTextDutiesUptoRow, standIns := [], harness := (true, "6b14a322da1b4f8e835cbdc5c8433997ba726a8cb94cb3ad584b9bcb88d357aa"), looks := true }, kinds := [], alts := [], laidByText := true, laidKinds := [.data, .data, .data, .sentinel, .sentinel, .data, .data, .data, .data], laidTests := true, laidLooks := .later }
def TopTextDutiesUptoCardSaid : Prop := Claim7.holds Tryz.pinned (.plain (OpenSpec.upto topTextDutiesSpec)) topTextDutiesUptoCard
end Rows
end Go.Proofs.YtjbocjodncbogaaGreatDoor
