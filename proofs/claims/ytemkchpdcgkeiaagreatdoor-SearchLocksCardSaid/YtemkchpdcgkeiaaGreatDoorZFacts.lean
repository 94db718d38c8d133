/- SearchLocks: the facts of the row. By program (mkclose.py). -/
import Derived.Test.YtemkchpdcgkeiaaGreatDoorCards
import Derived.Test.YtemkchpdcgkeiaaGreatDoorTie
import Derived.ProofKit
import Derived.SevenTiedAt
set_option linter.unusedSimpArgs false
set_option linter.unusedVariables false
namespace Go.Proofs.YtemkchpdcgkeiaaGreatDoor
open Go Go.RowKit Go.ChangeShapes Go.WideShapes
set_option linter.unusedVariables false
set_option maxRecDepth 100000
theorem searchLocks_j0 : (Rows.searchLocksRow.wf (OpenSpec.ofChange Rows.searchLocksSpec)) = true := by kernel_rfl
theorem searchLocks_j1 : (laidOutB Tryz.prog) = true := by kernel_rfl
theorem searchLocks_j2 : (mapsRowed Tryz.prog) = true := by kernel_rfl
theorem searchLocks_j3 : (Tryz.f5.params.all (Tryz.prog.readableRec ·)) = true := by kernel_rfl
theorem searchLocks_j4 : (namedTie Tryz.prog Rows.searchLocksRow.named Rows.searchLocksSpec.vars) = true := by kernel_rfl
theorem searchLocks_j5 : ((Rows.searchLocksRow.stops == [])) = true := by kernel_rfl
theorem searchLocks_j6 : ((Tryz.prog.stops == [])) = true := by kernel_rfl
theorem searchLocks_j7 : ((Rows.searchLocksRow.knobs == [])) = true := by kernel_rfl
theorem searchLocks_j8 : ((Tryz.prog.stopKnobs == [])) = true := by kernel_rfl
theorem searchLocks_j9 : ((Rows.searchLocksRow.inPlace == Tryz.prog.inPlace 5)) = true := by kernel_rfl
theorem searchLocks_j10 : ((Rows.searchLocksRow.unfollowed == Tryz.prog.unfollowed 5)) = true := by kernel_rfl
theorem searchLocks_j11 : ((Rows.searchLocksRow.recurses == Tryz.prog.recurses 5)) = true := by kernel_rfl
theorem searchLocks_j12 : ((Rows.searchLocksRow.named == Tryz.prog.varsNamed 5)) = true := by kernel_rfl
theorem searchLocks_j13 : ((Rows.searchLocksRow.maps == (Tryz.f5.params.toList ++ Rows.searchLocksSpec.plain.varTypes Tryz.prog).any (Tryz.prog.mapsRec ·))) = true := by kernel_rfl
theorem searchLocks_j14 : ((Rows.searchLocksRow.ifaces == (Tryz.f5.params.toList ++ Rows.searchLocksSpec.plain.varTypes Tryz.prog).any (Tryz.prog.ifacesRec ·))) = true := by kernel_rfl
theorem searchLocks_j15 : ((Rows.searchLocksRow.mapsOut == Tryz.prog.mapsAmong Tryz.f5.resultTypes.toList)) = true := by kernel_rfl
theorem searchLocks_j16 : ((Rows.searchLocksRow.loops == (Tryz.f5.params.toList ++ Rows.searchLocksSpec.plain.varTypes Tryz.prog).any (Tryz.prog.loopsFrom ·))) = true := by kernel_rfl
theorem searchLocks_j17 : ((Rows.searchLocksRow.wideKeys == (Tryz.f5.params.toList ++ Rows.searchLocksSpec.plain.varTypes Tryz.prog ++ Tryz.f5.resultTypes.toList).any (Tryz.prog.wideKeysFrom ·))) = true := by kernel_rfl
theorem searchLocks_j18 : (Rows.searchLocksSpec.vars.all (Tryz.prog.varReadable ·)) = true := by kernel_rfl
theorem searchLocks_j19 : (Tryz.f5.resultTypes.all (fun t => Tryz.prog.readableRec t && decide (t < Tryz.prog.types.size))) = true := by kernel_rfl
theorem searchLocks_j20 : ((Rows.searchLocksRow.ifacesOut == Tryz.f5.resultTypes.toList.any (Tryz.prog.ifacesRec ·))) = true := by kernel_rfl
theorem searchLocks_j21 : ((Rows.searchLocksRow.loopsOut == Tryz.f5.resultTypes.toList.any (Tryz.prog.loopsFrom ·))) = true := by kernel_rfl
theorem searchLocks_j22 : ((Rows.searchLocksRow.plainKeys == Tryz.prog.plainKeys)) = true := by kernel_rfl
theorem searchLocks_j23 : (Rows.searchLocksRow.shortTexts.isNone) = true := by kernel_rfl
theorem searchLocks_j24 : (Tryz.prog.stopsHeard) = true := by kernel_rfl
theorem searchLocks_j25 : (Tryz.prog.mayEnter) = true := by kernel_rfl
theorem searchLocks_j26 : ((Rows.searchLocksRow.lifted == Tryz.prog.liftsFinal)) = true := by kernel_rfl
theorem searchLocks_j27 : ((Tryz.prog.make == some Rows.searchLocksRow.make)) = true := by kernel_rfl
theorem searchLocks_j28 : ((Rows.searchLocksRow.kinds == (if Rows.searchLocksRow.domain.isEmpty then [] else Tryz.f5.params.toList.map fun t => match Tryz.prog.underlying t with | some (.int k) => some k | _ => none))) = true := by kernel_rfl
theorem searchLocks_j29 : ((Rows.searchLocksRow.pinned == Rows.searchLocksRow.pinnedBy)) = true := by kernel_rfl
theorem searchLocks_j30 : ((Rows.searchLocksRow.veiled == (Tryz.f5.params.toList ++ Rows.searchLocksSpec.plain.varTypes Tryz.prog ++ Tryz.f5.resultTypes.toList).any (Tryz.prog.veiledRec ·))) = true := by kernel_rfl
theorem searchLocks_j31 : (Rows.searchLocksRow.veiledFits Tryz.prog Tryz.f5.params.toList (Tryz.f5.params.toList ++ Rows.searchLocksSpec.plain.varTypes Tryz.prog ++ Tryz.f5.resultTypes.toList)) = true := by kernel_rfl
theorem searchLocks_joined : joinedFacts Tryz.prog 5 Tryz.f5 Rows.searchLocksSpec Rows.searchLocksRow = true := by
  unfold joinedFacts
  iterate 31 rw [Bool.and_eq_true]
  exact ⟨⟨⟨⟨⟨⟨⟨⟨⟨⟨⟨⟨⟨⟨⟨⟨⟨⟨⟨⟨⟨⟨⟨⟨⟨⟨⟨⟨⟨⟨⟨searchLocks_j0, searchLocks_j1⟩, searchLocks_j2⟩, searchLocks_j3⟩, searchLocks_j4⟩, searchLocks_j5⟩, searchLocks_j6⟩, searchLocks_j7⟩, searchLocks_j8⟩, searchLocks_j9⟩, searchLocks_j10⟩, searchLocks_j11⟩, searchLocks_j12⟩, searchLocks_j13⟩, searchLocks_j14⟩, searchLocks_j15⟩, searchLocks_j16⟩, searchLocks_j17⟩, searchLocks_j18⟩, searchLocks_j19⟩, searchLocks_j20⟩, searchLocks_j21⟩, searchLocks_j22⟩, searchLocks_j23⟩, searchLocks_j24⟩, searchLocks_j25⟩, searchLocks_j26⟩, searchLocks_j27⟩, searchLocks_j28⟩, searchLocks_j29⟩, searchLocks_j30⟩, searchLocks_j31⟩
theorem searchLocks_wf : Rows.searchLocksRow.wfByText (OpenSpec.ofChange Rows.searchLocksSpec) = true := by kernel_rfl
theorem searchLocks_main : Tryz.prog.mainIs = some (true, "cb2bf198d57ee5f9def3aac962f1c42a35e3c1636470b598424f096dea3a5e42".toList) := by kernel_rfl
theorem searchLocks_looks : true = Tryz.prog.looks [] := by kernel_rfl
theorem searchLocks_goes : false = Rows.searchLocksRow.goesBy Tryz.prog := by kernel_rfl
theorem searchLocks_named : Tryz.prog.funcNamed "interleave/interleavelaw21.SearchLocks" = some 5 := by kernel_rfl
end Go.Proofs.YtemkchpdcgkeiaaGreatDoor
