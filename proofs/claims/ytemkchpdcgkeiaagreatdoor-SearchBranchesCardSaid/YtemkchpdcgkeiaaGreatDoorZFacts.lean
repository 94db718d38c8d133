/- SearchBranches: the facts of the row. By program (mkclose.py). -/
import Derived.Test.YtemkchpdcgkeiaaGreatDoorCards
import Derived.Test.YtemkchpdcgkeiaaGreatDoorTie
import Derived.ProofKit
import Derived.SevenTiedAt
set_option linter.unusedSimpArgs false
set_option linter.unusedVariables false
namespace Go.Proofs.YtemkchpdcgkeiaaGreatDoor
open Go Go.RowKit Go.ChangeShapes Go.WideShapes
set_option linter.unusedVariables false
set_option maxRecDepth 100000
theorem searchBranches_j0 : (Rows.searchBranchesRow.wf (OpenSpec.ofChange Rows.searchBranchesSpec)) = true := by kernel_rfl
theorem searchBranches_j1 : (laidOutB Tryz.prog) = true := by kernel_rfl
theorem searchBranches_j2 : (mapsRowed Tryz.prog) = true := by kernel_rfl
theorem searchBranches_j3 : (Tryz.f3.params.all (Tryz.prog.readableRec ·)) = true := by kernel_rfl
theorem searchBranches_j4 : (namedTie Tryz.prog Rows.searchBranchesRow.named Rows.searchBranchesSpec.vars) = true := by kernel_rfl
theorem searchBranches_j5 : ((Rows.searchBranchesRow.stops == [])) = true := by kernel_rfl
theorem searchBranches_j6 : ((Tryz.prog.stops == [])) = true := by kernel_rfl
theorem searchBranches_j7 : ((Rows.searchBranchesRow.knobs == [])) = true := by kernel_rfl
theorem searchBranches_j8 : ((Tryz.prog.stopKnobs == [])) = true := by kernel_rfl
theorem searchBranches_j9 : ((Rows.searchBranchesRow.inPlace == Tryz.prog.inPlace 3)) = true := by kernel_rfl
theorem searchBranches_j10 : ((Rows.searchBranchesRow.unfollowed == Tryz.prog.unfollowed 3)) = true := by kernel_rfl
theorem searchBranches_j11 : ((Rows.searchBranchesRow.recurses == Tryz.prog.recurses 3)) = true := by kernel_rfl
theorem searchBranches_j12 : ((Rows.searchBranchesRow.named == Tryz.prog.varsNamed 3)) = true := by kernel_rfl
theorem searchBranches_j13 : ((Rows.searchBranchesRow.maps == (Tryz.f3.params.toList ++ Rows.searchBranchesSpec.plain.varTypes Tryz.prog).any (Tryz.prog.mapsRec ·))) = true := by kernel_rfl
theorem searchBranches_j14 : ((Rows.searchBranchesRow.ifaces == (Tryz.f3.params.toList ++ Rows.searchBranchesSpec.plain.varTypes Tryz.prog).any (Tryz.prog.ifacesRec ·))) = true := by kernel_rfl
theorem searchBranches_j15 : ((Rows.searchBranchesRow.mapsOut == Tryz.prog.mapsAmong Tryz.f3.resultTypes.toList)) = true := by kernel_rfl
theorem searchBranches_j16 : ((Rows.searchBranchesRow.loops == (Tryz.f3.params.toList ++ Rows.searchBranchesSpec.plain.varTypes Tryz.prog).any (Tryz.prog.loopsFrom ·))) = true := by kernel_rfl
theorem searchBranches_j17 : ((Rows.searchBranchesRow.wideKeys == (Tryz.f3.params.toList ++ Rows.searchBranchesSpec.plain.varTypes Tryz.prog ++ Tryz.f3.resultTypes.toList).any (Tryz.prog.wideKeysFrom ·))) = true := by kernel_rfl
theorem searchBranches_j18 : (Rows.searchBranchesSpec.vars.all (Tryz.prog.varReadable ·)) = true := by kernel_rfl
theorem searchBranches_j19 : (Tryz.f3.resultTypes.all (fun t => Tryz.prog.readableRec t && decide (t < Tryz.prog.types.size))) = true := by kernel_rfl
theorem searchBranches_j20 : ((Rows.searchBranchesRow.ifacesOut == Tryz.f3.resultTypes.toList.any (Tryz.prog.ifacesRec ·))) = true := by kernel_rfl
theorem searchBranches_j21 : ((Rows.searchBranchesRow.loopsOut == Tryz.f3.resultTypes.toList.any (Tryz.prog.loopsFrom ·))) = true := by kernel_rfl
theorem searchBranches_j22 : ((Rows.searchBranchesRow.plainKeys == Tryz.prog.plainKeys)) = true := by kernel_rfl
theorem searchBranches_j23 : (Rows.searchBranchesRow.shortTexts.isNone) = true := by kernel_rfl
theorem searchBranches_j24 : (Tryz.prog.stopsHeard) = true := by kernel_rfl
theorem searchBranches_j25 : (Tryz.prog.mayEnter) = true := by kernel_rfl
theorem searchBranches_j26 : ((Rows.searchBranchesRow.lifted == Tryz.prog.liftsFinal)) = true := by kernel_rfl
theorem searchBranches_j27 : ((Tryz.prog.make == some Rows.searchBranchesRow.make)) = true := by kernel_rfl
theorem searchBranches_j28 : ((Rows.searchBranchesRow.kinds == (if Rows.searchBranchesRow.domain.isEmpty then [] else Tryz.f3.params.toList.map fun t => match Tryz.prog.underlying t with | some (.int k) => some k | _ => none))) = true := by kernel_rfl
theorem searchBranches_j29 : ((Rows.searchBranchesRow.pinned == Rows.searchBranchesRow.pinnedBy)) = true := by kernel_rfl
theorem searchBranches_j30 : ((Rows.searchBranchesRow.veiled == (Tryz.f3.params.toList ++ Rows.searchBranchesSpec.plain.varTypes Tryz.prog ++ Tryz.f3.resultTypes.toList).any (Tryz.prog.veiledRec ·))) = true := by kernel_rfl
theorem searchBranches_j31 : (Rows.searchBranchesRow.veiledFits Tryz.prog Tryz.f3.params.toList (Tryz.f3.params.toList ++ Rows.searchBranchesSpec.plain.varTypes Tryz.prog ++ Tryz.f3.resultTypes.toList)) = true := by kernel_rfl
theorem searchBranches_joined : joinedFacts Tryz.prog 3 Tryz.f3 Rows.searchBranchesSpec Rows.searchBranchesRow = true := by
  unfold joinedFacts
  iterate 31 rw [Bool.and_eq_true]
  exact ⟨⟨⟨⟨⟨⟨⟨⟨⟨⟨⟨⟨⟨⟨⟨⟨⟨⟨⟨⟨⟨⟨⟨⟨⟨⟨⟨⟨⟨⟨⟨searchBranches_j0, searchBranches_j1⟩, searchBranches_j2⟩, searchBranches_j3⟩, searchBranches_j4⟩, searchBranches_j5⟩, searchBranches_j6⟩, searchBranches_j7⟩, searchBranches_j8⟩, searchBranches_j9⟩, searchBranches_j10⟩, searchBranches_j11⟩, searchBranches_j12⟩, searchBranches_j13⟩, searchBranches_j14⟩, searchBranches_j15⟩, searchBranches_j16⟩, searchBranches_j17⟩, searchBranches_j18⟩, searchBranches_j19⟩, searchBranches_j20⟩, searchBranches_j21⟩, searchBranches_j22⟩, searchBranches_j23⟩, searchBranches_j24⟩, searchBranches_j25⟩, searchBranches_j26⟩, searchBranches_j27⟩, searchBranches_j28⟩, searchBranches_j29⟩, searchBranches_j30⟩, searchBranches_j31⟩
theorem searchBranches_wf : Rows.searchBranchesRow.wfByText (OpenSpec.ofChange Rows.searchBranchesSpec) = true := by kernel_rfl
theorem searchBranches_main : Tryz.prog.mainIs = some (true, "cb2bf198d57ee5f9def3aac962f1c42a35e3c1636470b598424f096dea3a5e42".toList) := by kernel_rfl
theorem searchBranches_looks : true = Tryz.prog.looks [] := by kernel_rfl
theorem searchBranches_goes : false = Rows.searchBranchesRow.goesBy Tryz.prog := by kernel_rfl
theorem searchBranches_named : Tryz.prog.funcNamed "interleave/interleavelaw21.SearchBranches" = some 3 := by kernel_rfl
end Go.Proofs.YtemkchpdcgkeiaaGreatDoor
