/-
  DERIVED. GIVEN WITH THE SEED: THE CARDS: each row of YtajpdafdickapaaGreatDoorRows.lean that lists a variable, with what it lists TIED to the program's text (the seventh form; the later family's looks); each row that meets fmt, with fmt's text TOLD by the authors' own Lean function (tested against real Go, not proved from fmt's source: count such statements apart). THE CARD IS WHAT COUNTS. Prove the row's statement (the work); the ties are given (YtajpdafdickapaaGreatDoorTie.lean); close each card by the builder's one call (the guide's Derived/Test/ToyasCard.lean, 'card_holds'). Laid BY PROGRAM, IN A SANDBOX (cutbox-door.mjs). By AI agents, Wed Nov 11 2026. No macro, syntax, notation, axiom, sorry.
-/
import Derived.Test.YtajpdafdickapaaGreatDoorRows
import GoSem.ClaimSeven
namespace Go.Proofs.YtajpdafdickapaaGreatDoor
namespace Rows

/-- THE TIED CARD OF 'interleavelaw20.GoalHolds'. -/
def goalHoldsCard : Claim7 := { stood := { row := goalHoldsRow, standIns := [], harness := (true, "0ae23184089ae666cb7da79b8b2862ed35f15fa0fbc7b2123bc8527cf0069351"), looks := true }, kinds := [], alts := [], laidByText := true, laidKinds := [.data, .data, .data, .data, .sentinel, .sentinel, .data, .pinned], laidTests := true, laidLooks := .later }
def GoalHoldsCardSaid : Prop := Claim7.holds Tryz.pinned (.plain (OpenSpec.ofChange goalHoldsSpec)) goalHoldsCard

/-- THE TIED CARD OF 'interleavelaw20.GoalBlocked'. -/
def goalBlockedCard : Claim7 := { stood := { row := goalBlockedRow, standIns := [], harness := (true, "0ae23184089ae666cb7da79b8b2862ed35f15fa0fbc7b2123bc8527cf0069351"), looks := true }, kinds := [], alts := [], laidByText := true, laidKinds := [.data, .data, .data, .data, .sentinel, .sentinel, .data, .pinned], laidTests := true, laidLooks := .later }
def GoalBlockedCardSaid : Prop := Claim7.holds Tryz.pinned (.plain (OpenSpec.ofChange goalBlockedSpec)) goalBlockedCard

/-- THE SECOND FORM's CARD OF 'interleavelaw20.GoalHolds'. -/
def goalHoldsUptoCard : Claim7 := { stood := { row := goalHoldsUptoRow, standIns := [], harness := (true, "0ae23184089ae666cb7da79b8b2862ed35f15fa0fbc7b2123bc8527cf0069351"), looks := true }, kinds := [], alts := [], laidByText := true, laidKinds := [.data, .data, .data, .data, .sentinel, .sentinel, .data, .pinned], laidTests := true, laidLooks := .later }
def GoalHoldsUptoCardSaid : Prop := Claim7.holds Tryz.pinned (.plain (OpenSpec.upto goalHoldsSpec)) goalHoldsUptoCard

/-- THE SECOND FORM's CARD OF 'interleavelaw20.GoalBlocked'. -/
def goalBlockedUptoCard : Claim7 := { stood := { row := goalBlockedUptoRow, standIns := [], harness := (true, "0ae23184089ae666cb7da79b8b2862ed35f15fa0fbc7b2123bc8527cf0069351"), looks := true }, kinds := [], alts := [], laidByText := true, laidKinds := [.data, .data, .data, .data, .sentinel, .sentinel, .data, .pinned], laidTests := true, laidLooks := .later }
def GoalBlockedUptoCardSaid : Prop := Claim7.holds Tryz.pinned (.plain (OpenSpec.upto goalBlockedSpec)) goalBlockedUptoCard
end Rows
end Go.Proofs.YtajpdafdickapaaGreatDoor
