/-
  DERIVED. GIVEN WITH THE SEED: THE CARDS: each row of YtnfojkibhgjfmaaGreatDoorRows.lean that lists a variable, with what it lists TIED to the program's text (the seventh form; the later family's looks); each row that meets fmt, with fmt's text TOLD by the authors' own Lean function (tested against real Go, not proved from fmt's source: count such statements apart). THE CARD IS WHAT COUNTS. Prove the row's statement (the work); the ties are given (YtnfojkibhgjfmaaGreatDoorTie.lean); close each card by the builder's one call (the guide's Derived/Test/ToyasCard.lean, 'card_holds'). Laid BY PROGRAM, IN A SANDBOX (cutbox-door.mjs). By AI agents, Wed Nov 11 2026. No macro, syntax, notation, axiom, sorry.
-/
import Derived.Test.YtnfojkibhgjfmaaGreatDoorRows
import GoSem.ClaimSeven
namespace Go.Proofs.YtnfojkibhgjfmaaGreatDoor
namespace Rows

/-- THE TIED CARD OF 'interleavelaw21.SearchFinds'. -/
def searchFindsCard : Claim7 := { stood := { row := searchFindsRow, standIns := [], harness := (true, "123fe17f4c54feb1ec8f9f095156e82fbebe2c534b061ac86814c5dae87b839a"), looks := true }, kinds := [], alts := [], laidByText := true, laidKinds := [.data, .data, .data, .data, .sentinel, .sentinel, .data, .pinned], laidTests := true, laidLooks := .later }
def SearchFindsCardSaid : Prop := Claim7.holds Tryz.pinned (.plain (OpenSpec.ofChange searchFindsSpec)) searchFindsCard

/-- THE TIED CARD OF 'interleavelaw21.SearchAll'. -/
def searchAllCard : Claim7 := { stood := { row := searchAllRow, standIns := [], harness := (true, "123fe17f4c54feb1ec8f9f095156e82fbebe2c534b061ac86814c5dae87b839a"), looks := true }, kinds := [], alts := [], laidByText := true, laidKinds := [.data, .data, .data, .data, .sentinel, .sentinel, .data, .pinned], laidTests := true, laidLooks := .later }
def SearchAllCardSaid : Prop := Claim7.holds Tryz.pinned (.plain (OpenSpec.ofChange searchAllSpec)) searchAllCard

/-- THE SECOND FORM's CARD OF 'interleavelaw21.SearchFinds'. -/
def searchFindsUptoCard : Claim7 := { stood := { row := searchFindsUptoRow, standIns := [], harness := (true, "123fe17f4c54feb1ec8f9f095156e82fbebe2c534b061ac86814c5dae87b839a"), looks := true }, kinds := [], alts := [], laidByText := true, laidKinds := [.data, .data, .data, .data, .sentinel, .sentinel, .data, .pinned], laidTests := true, laidLooks := .later }
def SearchFindsUptoCardSaid : Prop := Claim7.holds Tryz.pinned (.plain (OpenSpec.upto searchFindsSpec)) searchFindsUptoCard

/-- THE SECOND FORM's CARD OF 'interleavelaw21.SearchAll'. -/
def searchAllUptoCard : Claim7 := { stood := { row := searchAllUptoRow, standIns := [], harness := (true, "123fe17f4c54feb1ec8f9f095156e82fbebe2c534b061ac86814c5dae87b839a"), looks := true }, kinds := [], alts := [], laidByText := true, laidKinds := [.data, .data, .data, .data, .sentinel, .sentinel, .data, .pinned], laidTests := true, laidLooks := .later }
def SearchAllUptoCardSaid : Prop := Claim7.holds Tryz.pinned (.plain (OpenSpec.upto searchAllSpec)) searchAllUptoCard
end Rows
end Go.Proofs.YtnfojkibhgjfmaaGreatDoor
