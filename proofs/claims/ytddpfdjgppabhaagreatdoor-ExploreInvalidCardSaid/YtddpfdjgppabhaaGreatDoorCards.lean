/-
  DERIVED. GIVEN WITH THE SEED: THE CARDS: each row of YtddpfdjgppabhaaGreatDoorRows.lean that lists a variable, with what it lists TIED to the program's text (the seventh form; the later family's looks); each row that meets fmt, with fmt's text TOLD by the authors' own Lean function (tested against real Go, not proved from fmt's source: count such statements apart). THE CARD IS WHAT COUNTS. Prove the row's statement (the work); the ties are given (YtddpfdjgppabhaaGreatDoorTie.lean); close each card by the builder's one call (the guide's Derived/Test/ToyasCard.lean, 'card_holds'). Laid BY PROGRAM, IN A SANDBOX (cutbox-door.mjs). By AI agents, Wed Nov 11 2026. No macro, syntax, notation, axiom, sorry.
-/
import Derived.Test.YtddpfdjgppabhaaGreatDoorRows
import GoSem.ClaimSeven
namespace Go.Proofs.YtddpfdjgppabhaaGreatDoor
namespace Rows

/-- THE TIED CARD OF 'interleavelaw10.ExploreInvalid'. -/
def exploreInvalidCard : Claim7 := { stood := { row := exploreInvalidRow, standIns := [], harness := (true, "ae410b683af9e573717e15128b96ca8bf26712b9c751e990e75959c585e994aa"), looks := true }, kinds := [], alts := [], laidByText := true, laidKinds := [.data, .data, .data, .data, .sentinel, .sentinel, .data, .data, .pinned], laidTests := true, laidLooks := .later }
def ExploreInvalidCardSaid : Prop := Claim7.holds Tryz.pinned (.plain (OpenSpec.ofChange exploreInvalidSpec)) exploreInvalidCard

/-- THE SECOND FORM's CARD OF 'interleavelaw10.ExploreInvalid'. -/
def exploreInvalidUptoCard : Claim7 := { stood := { row := exploreInvalidUptoRow, standIns := [], harness := (true, "ae410b683af9e573717e15128b96ca8bf26712b9c751e990e75959c585e994aa"), looks := true }, kinds := [], alts := [], laidByText := true, laidKinds := [.data, .data, .data, .data, .sentinel, .sentinel, .data, .data, .pinned], laidTests := true, laidLooks := .later }
def ExploreInvalidUptoCardSaid : Prop := Claim7.holds Tryz.pinned (.plain (OpenSpec.upto exploreInvalidSpec)) exploreInvalidUptoCard
end Rows
end Go.Proofs.YtddpfdjgppabhaaGreatDoor
