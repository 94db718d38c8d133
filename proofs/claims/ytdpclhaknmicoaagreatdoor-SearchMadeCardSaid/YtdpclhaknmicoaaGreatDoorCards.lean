/-
  DERIVED. GIVEN WITH THE SEED: THE CARDS: each row of YtdpclhaknmicoaaGreatDoorRows.lean that lists a variable, with what it lists TIED to the program's text (the seventh form; the later family's looks); each row that meets fmt, with fmt's text TOLD by the authors' own Lean function (tested against real Go, not proved from fmt's source: count such statements apart). THE CARD IS WHAT COUNTS. Prove the row's statement (the work); the ties are given (YtdpclhaknmicoaaGreatDoorTie.lean); close each card by the builder's one call (the guide's Derived/Test/ToyasCard.lean, 'card_holds'). Laid BY PROGRAM, IN A SANDBOX (cutbox-door.mjs). By AI agents, Wed Nov 11 2026. No macro, syntax, notation, axiom, sorry.
-/
import Derived.Test.YtdpclhaknmicoaaGreatDoorRows
import GoSem.ClaimSeven
namespace Go.Proofs.YtdpclhaknmicoaaGreatDoor
namespace Rows

/-- THE TIED CARD OF 'interleavelaw21.SearchMade'. -/
def searchMadeCard : Claim7 := { stood := { row := searchMadeRow, standIns := [], harness := (true, "d13495585116498592338166f1097f02b78a9def212249b0ff8c14a17b47f2c1"), looks := true }, kinds := [], alts := [], laidByText := true, laidKinds := [.data, .data, .data, .data, .sentinel, .sentinel, .data, .pinned], laidTests := true, laidLooks := .later }
def SearchMadeCardSaid : Prop := Claim7.holds Tryz.pinned (.plain (OpenSpec.ofChange searchMadeSpec)) searchMadeCard

/-- THE SECOND FORM's CARD OF 'interleavelaw21.SearchMade'. -/
def searchMadeUptoCard : Claim7 := { stood := { row := searchMadeUptoRow, standIns := [], harness := (true, "d13495585116498592338166f1097f02b78a9def212249b0ff8c14a17b47f2c1"), looks := true }, kinds := [], alts := [], laidByText := true, laidKinds := [.data, .data, .data, .data, .sentinel, .sentinel, .data, .pinned], laidTests := true, laidLooks := .later }
def SearchMadeUptoCardSaid : Prop := Claim7.holds Tryz.pinned (.plain (OpenSpec.upto searchMadeSpec)) searchMadeUptoCard
end Rows
end Go.Proofs.YtdpclhaknmicoaaGreatDoor
