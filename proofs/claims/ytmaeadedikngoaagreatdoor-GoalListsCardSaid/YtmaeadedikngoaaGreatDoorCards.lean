/-
  DERIVED. GIVEN WITH THE SEED: THE CARDS: each row of YtmaeadedikngoaaGreatDoorRows.lean that lists a variable, with what it lists TIED to the program's text (the seventh form; the later family's looks); each row that meets fmt, with fmt's text TOLD by the authors' own Lean function (tested against real Go, not proved from fmt's source: count such statements apart). THE CARD IS WHAT COUNTS. Prove the row's statement (the work); the ties are given (YtmaeadedikngoaaGreatDoorTie.lean); close each card by the builder's one call (the guide's Derived/Test/ToyasCard.lean, 'card_holds'). Laid BY PROGRAM, IN A SANDBOX (cutbox-door.mjs). By AI agents, Wed Nov 11 2026. No macro, syntax, notation, axiom, sorry.
-/
import Derived.Test.YtmaeadedikngoaaGreatDoorRows
import GoSem.ClaimSeven
namespace Go.Proofs.YtmaeadedikngoaaGreatDoor
namespace Rows

/-- THE TIED CARD OF 'interleavelaw20.GoalTells'. -/
def goalTellsCard : Claim7 := { stood := { row := goalTellsRow, standIns := [], harness := (true, "96e63c93249ac6efc5ef6cb6ded2ba7abf4f04f423059530b43eb10f2a7c5359"), looks := true }, kinds := [], alts := [], laidByText := true, laidKinds := [.data, .data, .data, .data, .sentinel, .sentinel, .data, .pinned], laidTests := true, laidLooks := .later }
def GoalTellsCardSaid : Prop := Claim7.holds Tryz.pinned (.plain (OpenSpec.ofChange goalTellsSpec)) goalTellsCard

/-- THE TIED CARD OF 'interleavelaw20.GoalMade'. -/
def goalMadeCard : Claim7 := { stood := { row := goalMadeRow, standIns := [], harness := (true, "96e63c93249ac6efc5ef6cb6ded2ba7abf4f04f423059530b43eb10f2a7c5359"), looks := true }, kinds := [], alts := [], laidByText := true, laidKinds := [.data, .data, .data, .data, .sentinel, .sentinel, .data, .pinned], laidTests := true, laidLooks := .later }
def GoalMadeCardSaid : Prop := Claim7.holds Tryz.pinned (.plain (OpenSpec.ofChange goalMadeSpec)) goalMadeCard

/-- THE TIED CARD OF 'interleavelaw20.GoalValid'. -/
def goalValidCard : Claim7 := { stood := { row := goalValidRow, standIns := [], harness := (true, "96e63c93249ac6efc5ef6cb6ded2ba7abf4f04f423059530b43eb10f2a7c5359"), looks := true }, kinds := [], alts := [], laidByText := true, laidKinds := [.data, .data, .data, .data, .sentinel, .sentinel, .data, .pinned], laidTests := true, laidLooks := .later }
def GoalValidCardSaid : Prop := Claim7.holds Tryz.pinned (.plain (OpenSpec.ofChange goalValidSpec)) goalValidCard

/-- THE TIED CARD OF 'interleavelaw20.GoalNear'. -/
def goalNearCard : Claim7 := { stood := { row := goalNearRow, standIns := [], harness := (true, "96e63c93249ac6efc5ef6cb6ded2ba7abf4f04f423059530b43eb10f2a7c5359"), looks := true }, kinds := [], alts := [], laidByText := true, laidKinds := [.data, .data, .data, .data, .sentinel, .sentinel, .data, .pinned], laidTests := true, laidLooks := .later }
def GoalNearCardSaid : Prop := Claim7.holds Tryz.pinned (.plain (OpenSpec.ofChange goalNearSpec)) goalNearCard

/-- THE TIED CARD OF 'interleavelaw20.GoalLists'. -/
def goalListsCard : Claim7 := { stood := { row := goalListsRow, standIns := [], harness := (true, "96e63c93249ac6efc5ef6cb6ded2ba7abf4f04f423059530b43eb10f2a7c5359"), looks := true }, kinds := [], alts := [], laidByText := true, laidKinds := [.data, .data, .data, .data, .sentinel, .sentinel, .data, .pinned], laidTests := true, laidLooks := .later }
def GoalListsCardSaid : Prop := Claim7.holds Tryz.pinned (.plain (OpenSpec.ofChange goalListsSpec)) goalListsCard

/-- THE SECOND FORM's CARD OF 'interleavelaw20.GoalTells'. -/
def goalTellsUptoCard : Claim7 := { stood := { row := goalTellsUptoRow, standIns := [], harness := (true, "96e63c93249ac6efc5ef6cb6ded2ba7abf4f04f423059530b43eb10f2a7c5359"), looks := true }, kinds := [], alts := [], laidByText := true, laidKinds := [.data, .data, .data, .data, .sentinel, .sentinel, .data, .pinned], laidTests := true, laidLooks := .later }
def GoalTellsUptoCardSaid : Prop := Claim7.holds Tryz.pinned (.plain (OpenSpec.upto goalTellsSpec)) goalTellsUptoCard

/-- THE SECOND FORM's CARD OF 'interleavelaw20.GoalMade'. -/
def goalMadeUptoCard : Claim7 := { stood := { row := goalMadeUptoRow, standIns := [], harness := (true, "96e63c93249ac6efc5ef6cb6ded2ba7abf4f04f423059530b43eb10f2a7c5359"), looks := true }, kinds := [], alts := [], laidByText := true, laidKinds := [.data, .data, .data, .data, .sentinel, .sentinel, .data, .pinned], laidTests := true, laidLooks := .later }
def GoalMadeUptoCardSaid : Prop := Claim7.holds Tryz.pinned (.plain (OpenSpec.upto goalMadeSpec)) goalMadeUptoCard

/-- THE SECOND FORM's CARD OF 'interleavelaw20.GoalValid'. -/
def goalValidUptoCard : Claim7 := { stood := { row := goalValidUptoRow, standIns := [], harness := (true, "96e63c93249ac6efc5ef6cb6ded2ba7abf4f04f423059530b43eb10f2a7c5359"), looks := true }, kinds := [], alts := [], laidByText := true, laidKinds := [.data, .data, .data, .data, .sentinel, .sentinel, .data, .pinned], laidTests := true, laidLooks := .later }
def GoalValidUptoCardSaid : Prop := Claim7.holds Tryz.pinned (.plain (OpenSpec.upto goalValidSpec)) goalValidUptoCard

/-- THE SECOND FORM's CARD OF 'interleavelaw20.GoalNear'. -/
def goalNearUptoCard : Claim7 := { stood := { row := goalNearUptoRow, standIns := [], harness := (true, "96e63c93249ac6efc5ef6cb6ded2ba7abf4f04f423059530b43eb10f2a7c5359"), looks := true }, kinds := [], alts := [], laidByText := true, laidKinds := [.data, .data, .data, .data, .sentinel, .sentinel, .data, .pinned], laidTests := true, laidLooks := .later }
def GoalNearUptoCardSaid : Prop := Claim7.holds Tryz.pinned (.plain (OpenSpec.upto goalNearSpec)) goalNearUptoCard

/-- THE SECOND FORM's CARD OF 'interleavelaw20.GoalLists'. -/
def goalListsUptoCard : Claim7 := { stood := { row := goalListsUptoRow, standIns := [], harness := (true, "96e63c93249ac6efc5ef6cb6ded2ba7abf4f04f423059530b43eb10f2a7c5359"), looks := true }, kinds := [], alts := [], laidByText := true, laidKinds := [.data, .data, .data, .data, .sentinel, .sentinel, .data, .pinned], laidTests := true, laidLooks := .later }
def GoalListsUptoCardSaid : Prop := Claim7.holds Tryz.pinned (.plain (OpenSpec.upto goalListsSpec)) goalListsUptoCard
end Rows
end Go.Proofs.YtmaeadedikngoaaGreatDoor
