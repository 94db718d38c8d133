/-
  DERIVED. GIVEN WITH THE SEED: THE CARDS: each row of YtalknpnbaceflaaGreatDoorRows.lean that lists a variable, with what it lists TIED to the program's text (the seventh form; the later family's looks); each row that meets fmt, with fmt's text TOLD by the authors' own Lean function (tested against real Go, not proved from fmt's source: count such statements apart). THE CARD IS WHAT COUNTS. Prove the row's statement (the work); the ties are given (YtalknpnbaceflaaGreatDoorTie.lean); close each card by the builder's one call (the guide's Derived/Test/ToyasCard.lean, 'card_holds'). Laid BY PROGRAM, IN A SANDBOX (cutbox-door.mjs). By AI agents, Wed Nov 11 2026. No macro, syntax, notation, axiom, sorry.
-/
import Derived.Test.YtalknpnbaceflaaGreatDoorRows
import GoSem.ClaimSeven
namespace Go.Proofs.YtalknpnbaceflaaGreatDoor
namespace Rows

/-- THE TIED CARD OF 'interleavelaw20.GoalLost'. -/
def goalLostCard : Claim7 := { stood := { row := goalLostRow, standIns := [], harness := (true, "d5896529f5d7735db0de5a9dc02100719733a75c95f19923495dfbced31af927"), looks := true }, kinds := [], alts := [], laidByText := true, laidKinds := [.data, .data, .data, .data, .sentinel, .sentinel, .data, .pinned], laidTests := true, laidLooks := .later }
def GoalLostCardSaid : Prop := Claim7.holds Tryz.pinned (.plain (OpenSpec.ofChange goalLostSpec)) goalLostCard

/-- THE TIED CARD OF 'interleavelaw20.GoalAtomic'. -/
def goalAtomicCard : Claim7 := { stood := { row := goalAtomicRow, standIns := [], harness := (true, "d5896529f5d7735db0de5a9dc02100719733a75c95f19923495dfbced31af927"), looks := true }, kinds := [], alts := [], laidByText := true, laidKinds := [.data, .data, .data, .data, .sentinel, .sentinel, .data, .pinned], laidTests := true, laidLooks := .later }
def GoalAtomicCardSaid : Prop := Claim7.holds Tryz.pinned (.plain (OpenSpec.ofChange goalAtomicSpec)) goalAtomicCard

/-- THE TIED CARD OF 'interleavelaw20.GoalDeadlocks'. -/
def goalDeadlocksCard : Claim7 := { stood := { row := goalDeadlocksRow, standIns := [], harness := (true, "d5896529f5d7735db0de5a9dc02100719733a75c95f19923495dfbced31af927"), looks := true }, kinds := [], alts := [], laidByText := true, laidKinds := [.data, .data, .data, .data, .sentinel, .sentinel, .data, .pinned], laidTests := true, laidLooks := .later }
def GoalDeadlocksCardSaid : Prop := Claim7.holds Tryz.pinned (.plain (OpenSpec.ofChange goalDeadlocksSpec)) goalDeadlocksCard

/-- THE SECOND FORM's CARD OF 'interleavelaw20.GoalLost'. -/
def goalLostUptoCard : Claim7 := { stood := { row := goalLostUptoRow, standIns := [], harness := (true, "d5896529f5d7735db0de5a9dc02100719733a75c95f19923495dfbced31af927"), looks := true }, kinds := [], alts := [], laidByText := true, laidKinds := [.data, .data, .data, .data, .sentinel, .sentinel, .data, .pinned], laidTests := true, laidLooks := .later }
def GoalLostUptoCardSaid : Prop := Claim7.holds Tryz.pinned (.plain (OpenSpec.upto goalLostSpec)) goalLostUptoCard

/-- THE SECOND FORM's CARD OF 'interleavelaw20.GoalAtomic'. -/
def goalAtomicUptoCard : Claim7 := { stood := { row := goalAtomicUptoRow, standIns := [], harness := (true, "d5896529f5d7735db0de5a9dc02100719733a75c95f19923495dfbced31af927"), looks := true }, kinds := [], alts := [], laidByText := true, laidKinds := [.data, .data, .data, .data, .sentinel, .sentinel, .data, .pinned], laidTests := true, laidLooks := .later }
def GoalAtomicUptoCardSaid : Prop := Claim7.holds Tryz.pinned (.plain (OpenSpec.upto goalAtomicSpec)) goalAtomicUptoCard

/-- THE SECOND FORM's CARD OF 'interleavelaw20.GoalDeadlocks'. -/
def goalDeadlocksUptoCard : Claim7 := { stood := { row := goalDeadlocksUptoRow, standIns := [], harness := (true, "d5896529f5d7735db0de5a9dc02100719733a75c95f19923495dfbced31af927"), looks := true }, kinds := [], alts := [], laidByText := true, laidKinds := [.data, .data, .data, .data, .sentinel, .sentinel, .data, .pinned], laidTests := true, laidLooks := .later }
def GoalDeadlocksUptoCardSaid : Prop := Claim7.holds Tryz.pinned (.plain (OpenSpec.upto goalDeadlocksSpec)) goalDeadlocksUptoCard
end Rows
end Go.Proofs.YtalknpnbaceflaaGreatDoor
