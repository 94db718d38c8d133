/-
  DERIVED. GIVEN WITH THE SEED: THE CARDS: each row of YtemkchpdcgkeiaaGreatDoorRows.lean that lists a variable, with what it lists TIED to the program's text (the seventh form; the later family's looks); each row that meets fmt, with fmt's text TOLD by the authors' own Lean function (tested against real Go, not proved from fmt's source: count such statements apart). THE CARD IS WHAT COUNTS. Prove the row's statement (the work); the ties are given (YtemkchpdcgkeiaaGreatDoorTie.lean); close each card by the builder's one call (the guide's Derived/Test/ToyasCard.lean, 'card_holds'). Laid BY PROGRAM, IN A SANDBOX (cutbox-door.mjs). By AI agents, Wed Nov 11 2026. No macro, syntax, notation, axiom, sorry.
-/
import Derived.Test.YtemkchpdcgkeiaaGreatDoorRows
import GoSem.ClaimSeven
namespace Go.Proofs.YtemkchpdcgkeiaaGreatDoor
namespace Rows

/-- THE TIED CARD OF 'interleavelaw21.SearchBranches'. -/
def searchBranchesCard : Claim7 := { stood := { row := searchBranchesRow, standIns := [], harness := (true, "cb2bf198d57ee5f9def3aac962f1c42a35e3c1636470b598424f096dea3a5e42"), looks := true }, kinds := [], alts := [], laidByText := true, laidKinds := [.data, .data, .data, .data, .sentinel, .sentinel, .data, .pinned], laidTests := true, laidLooks := .later }
def SearchBranchesCardSaid : Prop := Claim7.holds Tryz.pinned (.plain (OpenSpec.ofChange searchBranchesSpec)) searchBranchesCard

/-- THE TIED CARD OF 'interleavelaw21.SearchValues'. -/
def searchValuesCard : Claim7 := { stood := { row := searchValuesRow, standIns := [], harness := (true, "cb2bf198d57ee5f9def3aac962f1c42a35e3c1636470b598424f096dea3a5e42"), looks := true }, kinds := [], alts := [], laidByText := true, laidKinds := [.data, .data, .data, .data, .sentinel, .sentinel, .data, .pinned], laidTests := true, laidLooks := .later }
def SearchValuesCardSaid : Prop := Claim7.holds Tryz.pinned (.plain (OpenSpec.ofChange searchValuesSpec)) searchValuesCard

/-- THE TIED CARD OF 'interleavelaw21.SearchLocks'. -/
def searchLocksCard : Claim7 := { stood := { row := searchLocksRow, standIns := [], harness := (true, "cb2bf198d57ee5f9def3aac962f1c42a35e3c1636470b598424f096dea3a5e42"), looks := true }, kinds := [], alts := [], laidByText := true, laidKinds := [.data, .data, .data, .data, .sentinel, .sentinel, .data, .pinned], laidTests := true, laidLooks := .later }
def SearchLocksCardSaid : Prop := Claim7.holds Tryz.pinned (.plain (OpenSpec.ofChange searchLocksSpec)) searchLocksCard

/-- THE TIED CARD OF 'interleavelaw21.SearchAtomic'. -/
def searchAtomicCard : Claim7 := { stood := { row := searchAtomicRow, standIns := [], harness := (true, "cb2bf198d57ee5f9def3aac962f1c42a35e3c1636470b598424f096dea3a5e42"), looks := true }, kinds := [], alts := [], laidByText := true, laidKinds := [.data, .data, .data, .data, .sentinel, .sentinel, .data, .pinned], laidTests := true, laidLooks := .later }
def SearchAtomicCardSaid : Prop := Claim7.holds Tryz.pinned (.plain (OpenSpec.ofChange searchAtomicSpec)) searchAtomicCard

/-- THE TIED CARD OF 'interleavelaw10.ExploreLocks'. -/
def exploreLocksCard : Claim7 := { stood := { row := exploreLocksRow, standIns := [], harness := (true, "cb2bf198d57ee5f9def3aac962f1c42a35e3c1636470b598424f096dea3a5e42"), looks := true }, kinds := [], alts := [], laidByText := true, laidKinds := [.data, .data, .data, .data, .sentinel, .sentinel, .data, .data, .pinned], laidTests := true, laidLooks := .later }
def ExploreLocksCardSaid : Prop := Claim7.holds Tryz.pinned (.plain (OpenSpec.ofChange exploreLocksSpec)) exploreLocksCard

/-- THE TIED CARD OF 'interleavelaw10.ExploreCycles'. -/
def exploreCyclesCard : Claim7 := { stood := { row := exploreCyclesRow, standIns := [], harness := (true, "cb2bf198d57ee5f9def3aac962f1c42a35e3c1636470b598424f096dea3a5e42"), looks := true }, kinds := [], alts := [], laidByText := true, laidKinds := [.data, .data, .data, .data, .sentinel, .sentinel, .data, .data, .pinned], laidTests := true, laidLooks := .later }
def ExploreCyclesCardSaid : Prop := Claim7.holds Tryz.pinned (.plain (OpenSpec.ofChange exploreCyclesSpec)) exploreCyclesCard

/-- THE SECOND FORM's CARD OF 'interleavelaw21.SearchBranches'. -/
def searchBranchesUptoCard : Claim7 := { stood := { row := searchBranchesUptoRow, standIns := [], harness := (true, "cb2bf198d57ee5f9def3aac962f1c42a35e3c1636470b598424f096dea3a5e42"), looks := true }, kinds := [], alts := [], laidByText := true, laidKinds := [.data, .data, .data, .data, .sentinel, .sentinel, .data, .pinned], laidTests := true, laidLooks := .later }
def SearchBranchesUptoCardSaid : Prop := Claim7.holds Tryz.pinned (.plain (OpenSpec.upto searchBranchesSpec)) searchBranchesUptoCard

/-- THE SECOND FORM's CARD OF 'interleavelaw21.SearchValues'. -/
def searchValuesUptoCard : Claim7 := { stood := { row := searchValuesUptoRow, standIns := [], harness := (true, "cb2bf198d57ee5f9def3aac962f1c42a35e3c1636470b598424f096dea3a5e42"), looks := true }, kinds := [], alts := [], laidByText := true, laidKinds := [.data, .data, .data, .data, .sentinel, .sentinel, .data, .pinned], laidTests := true, laidLooks := .later }
def SearchValuesUptoCardSaid : Prop := Claim7.holds Tryz.pinned (.plain (OpenSpec.upto searchValuesSpec)) searchValuesUptoCard

/-- THE SECOND FORM's CARD OF 'interleavelaw21.SearchLocks'. -/
def searchLocksUptoCard : Claim7 := { stood := { row := searchLocksUptoRow, standIns := [], harness := (true, "cb2bf198d57ee5f9def3aac962f1c42a35e3c1636470b598424f096dea3a5e42"), looks := true }, kinds := [], alts := [], laidByText := true, laidKinds := [.data, .data, .data, .data, .sentinel, .sentinel, .data, .pinned], laidTests := true, laidLooks := .later }
def SearchLocksUptoCardSaid : Prop := Claim7.holds Tryz.pinned (.plain (OpenSpec.upto searchLocksSpec)) searchLocksUptoCard

/-- THE SECOND FORM's CARD OF 'interleavelaw21.SearchAtomic'. -/
def searchAtomicUptoCard : Claim7 := { stood := { row := searchAtomicUptoRow, standIns := [], harness := (true, "cb2bf198d57ee5f9def3aac962f1c42a35e3c1636470b598424f096dea3a5e42"), looks := true }, kinds := [], alts := [], laidByText := true, laidKinds := [.data, .data, .data, .data, .sentinel, .sentinel, .data, .pinned], laidTests := true, laidLooks := .later }
def SearchAtomicUptoCardSaid : Prop := Claim7.holds Tryz.pinned (.plain (OpenSpec.upto searchAtomicSpec)) searchAtomicUptoCard

/-- THE SECOND FORM's CARD OF 'interleavelaw10.ExploreLocks'. -/
def exploreLocksUptoCard : Claim7 := { stood := { row := exploreLocksUptoRow, standIns := [], harness := (true, "cb2bf198d57ee5f9def3aac962f1c42a35e3c1636470b598424f096dea3a5e42"), looks := true }, kinds := [], alts := [], laidByText := true, laidKinds := [.data, .data, .data, .data, .sentinel, .sentinel, .data, .data, .pinned], laidTests := true, laidLooks := .later }
def ExploreLocksUptoCardSaid : Prop := Claim7.holds Tryz.pinned (.plain (OpenSpec.upto exploreLocksSpec)) exploreLocksUptoCard

/-- THE SECOND FORM's CARD OF 'interleavelaw10.ExploreCycles'. -/
def exploreCyclesUptoCard : Claim7 := { stood := { row := exploreCyclesUptoRow, standIns := [], harness := (true, "cb2bf198d57ee5f9def3aac962f1c42a35e3c1636470b598424f096dea3a5e42"), looks := true }, kinds := [], alts := [], laidByText := true, laidKinds := [.data, .data, .data, .data, .sentinel, .sentinel, .data, .data, .pinned], laidTests := true, laidLooks := .later }
def ExploreCyclesUptoCardSaid : Prop := Claim7.holds Tryz.pinned (.plain (OpenSpec.upto exploreCyclesSpec)) exploreCyclesUptoCard
end Rows
end Go.Proofs.YtemkchpdcgkeiaaGreatDoor
