/-
  DERIVED. GIVEN WITH THE SEED: THE CARDS: each row of YtbappgeamhmmbaaGreatDoorRows.lean that lists a variable, with what it lists TIED to the program's text (the seventh form; the later family's looks); each row that meets fmt, with fmt's text TOLD by the authors' own Lean function (tested against real Go, not proved from fmt's source: count such statements apart). THE CARD IS WHAT COUNTS. Prove the row's statement (the work); the ties are given (YtbappgeamhmmbaaGreatDoorTie.lean); close each card by the builder's one call (the guide's Derived/Test/ToyasCard.lean, 'card_holds'). Laid BY PROGRAM, IN A SANDBOX (cutbox-door.mjs). By AI agents, Wed Nov 11 2026. No macro, syntax, notation, axiom, sorry.
-/
import Derived.Test.YtbappgeamhmmbaaGreatDoorRows
import GoSem.ClaimSeven
namespace Go.Proofs.YtbappgeamhmmbaaGreatDoor
namespace Rows

/-- THE TIED CARD OF 'interleavelaw21.SearchInvalid'. -/
def searchInvalidCard : Claim7 := { stood := { row := searchInvalidRow, standIns := [], harness := (true, "e975a56edcbc2268a8e17d7c5f96900bc9fae82f87bc7463c3be052f0b8bcde6"), looks := true }, kinds := [], alts := [], laidByText := true, laidKinds := [.data, .data, .data, .data, .sentinel, .sentinel, .data, .pinned], laidTests := true, laidLooks := .later }
def SearchInvalidCardSaid : Prop := Claim7.holds Tryz.pinned (.plain (OpenSpec.ofChange searchInvalidSpec)) searchInvalidCard

/-- THE SECOND FORM's CARD OF 'interleavelaw21.SearchInvalid'. -/
def searchInvalidUptoCard : Claim7 := { stood := { row := searchInvalidUptoRow, standIns := [], harness := (true, "e975a56edcbc2268a8e17d7c5f96900bc9fae82f87bc7463c3be052f0b8bcde6"), looks := true }, kinds := [], alts := [], laidByText := true, laidKinds := [.data, .data, .data, .data, .sentinel, .sentinel, .data, .pinned], laidTests := true, laidLooks := .later }
def SearchInvalidUptoCardSaid : Prop := Claim7.holds Tryz.pinned (.plain (OpenSpec.upto searchInvalidSpec)) searchInvalidUptoCard
end Rows
end Go.Proofs.YtbappgeamhmmbaaGreatDoor
