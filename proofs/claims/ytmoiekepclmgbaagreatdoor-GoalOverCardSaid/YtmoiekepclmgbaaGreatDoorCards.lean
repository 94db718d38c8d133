/-
  DERIVED. GIVEN WITH THE SEED: THE CARDS: each row of YtmoiekepclmgbaaGreatDoorRows.lean that lists a variable, with what it lists TIED to the program's text (the seventh form; the later family's looks); each row that meets fmt, with fmt's text TOLD by the authors' own Lean function (tested against real Go, not proved from fmt's source: count such statements apart). THE CARD IS WHAT COUNTS. Prove the row's statement (the work); the ties are given (YtmoiekepclmgbaaGreatDoorTie.lean); close each card by the builder's one call (the guide's Derived/Test/ToyasCard.lean, 'card_holds'). Laid BY PROGRAM, IN A SANDBOX (cutbox-door.mjs). By AI agents, Wed Nov 11 2026. No macro, syntax, notation, axiom, sorry.
-/
import Derived.Test.YtmoiekepclmgbaaGreatDoorRows
import GoSem.ClaimSeven
namespace Go.Proofs.YtmoiekepclmgbaaGreatDoor
namespace Rows

/-- THE TIED CARD OF 'interleavelaw20.GoalRaces'. -/
def goalRacesCard : Claim7 := { stood := { row := goalRacesRow, standIns := [], harness := (true, "81d43e2c43c14c58f6b0f0263e7c4eae5221d2c24a3c85b5ee4ac1558d68afd5"), looks := true }, kinds := [], alts := [], laidByText := true, laidKinds := [.data, .data, .data, .data, .sentinel, .sentinel, .data, .pinned], laidTests := true, laidLooks := .later }
def GoalRacesCardSaid : Prop := Claim7.holds Tryz.pinned (.plain (OpenSpec.ofChange goalRacesSpec)) goalRacesCard

/-- THE TIED CARD OF 'interleavelaw20.GoalOver'. -/
def goalOverCard : Claim7 := { stood := { row := goalOverRow, standIns := [], harness := (true, "81d43e2c43c14c58f6b0f0263e7c4eae5221d2c24a3c85b5ee4ac1558d68afd5"), looks := true }, kinds := [], alts := [], laidByText := true, laidKinds := [.data, .data, .data, .data, .sentinel, .sentinel, .data, .pinned], laidTests := true, laidLooks := .later }
def GoalOverCardSaid : Prop := Claim7.holds Tryz.pinned (.plain (OpenSpec.ofChange goalOverSpec)) goalOverCard

/-- THE SECOND FORM's CARD OF 'interleavelaw20.GoalRaces'. -/
def goalRacesUptoCard : Claim7 := { stood := { row := goalRacesUptoRow, standIns := [], harness := (true, "81d43e2c43c14c58f6b0f0263e7c4eae5221d2c24a3c85b5ee4ac1558d68afd5"), looks := true }, kinds := [], alts := [], laidByText := true, laidKinds := [.data, .data, .data, .data, .sentinel, .sentinel, .data, .pinned], laidTests := true, laidLooks := .later }
def GoalRacesUptoCardSaid : Prop := Claim7.holds Tryz.pinned (.plain (OpenSpec.upto goalRacesSpec)) goalRacesUptoCard

/-- THE SECOND FORM's CARD OF 'interleavelaw20.GoalOver'. -/
def goalOverUptoCard : Claim7 := { stood := { row := goalOverUptoRow, standIns := [], harness := (true, "81d43e2c43c14c58f6b0f0263e7c4eae5221d2c24a3c85b5ee4ac1558d68afd5"), looks := true }, kinds := [], alts := [], laidByText := true, laidKinds := [.data, .data, .data, .data, .sentinel, .sentinel, .data, .pinned], laidTests := true, laidLooks := .later }
def GoalOverUptoCardSaid : Prop := Claim7.holds Tryz.pinned (.plain (OpenSpec.upto goalOverSpec)) goalOverUptoCard
end Rows
end Go.Proofs.YtmoiekepclmgbaaGreatDoor
