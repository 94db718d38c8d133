/- SearchValues: the facts of the row. By program (mkclose.py). -/
import Derived.Test.YtemkchpdcgkeiaaGreatDoorCards
import Derived.Test.YtemkchpdcgkeiaaGreatDoorTie
import Derived.ProofKit
import Derived.SevenTiedAt
namespace Go.Proofs.YtemkchpdcgkeiaaGreatDoor
set_option linter.unusedSimpArgs false
set_option linter.unusedVariables false
open Go Go.RowKit Go.ChangeShapes Go.WideShapes
set_option linter.unusedVariables false
set_option maxRecDepth 100000
theorem searchValues_j0 : (Rows.searchValuesRow.wf (OpenSpec.ofChange Rows.searchValuesSpec)) = true := by kernel_rfl
theorem searchValues_j1 : (laidOutB Tryz.prog) = true := by kernel_rfl
theorem searchValues_j2 : (mapsRowed Tryz.prog) = true := by kernel_rfl
theorem searchValues_j3 : (Tryz.f4.params.all (Tryz.prog.readableRec ·)) = true := by kernel_rfl
theorem searchValues_j4 : (namedTie Tryz.prog Rows.searchValuesRow.named Rows.searchValuesSpec.vars) = true := by kernel_rfl
theorem searchValues_j5 : ((Rows.searchValuesRow.stops == [])) = true := by kernel_rfl
theorem searchValues_j6 : ((Tryz.prog.stops == [])) = true := by kernel_rfl
theorem searchValues_j7 : ((Rows.searchValuesRow.knobs == [])) = true := by kernel_rfl
theorem searchValues_j8 : ((Tryz.prog.stopKnobs == [])) = true := by kernel_rfl
theorem searchValues_j9 : ((Rows.searchValuesRow.inPlace == Tryz.prog.inPlace 4)) = true := by kernel_rfl
theorem searchValues_j10 : ((Rows.searchValuesRow.unfollowed == Tryz.prog.unfollowed 4)) = true := by kernel_rfl
theorem searchValues_j11 : ((Rows.searchValuesRow.recurses == Tryz.prog.recurses 4)) = true := by kernel_rfl
theorem searchValues_j12 : ((Rows.searchValuesRow.named == Tryz.prog.varsNamed 4)) = true := by kernel_rfl
theorem searchValues_j13 : ((Rows.searchValuesRow.maps == (Tryz.f4.params.toList ++ Rows.searchValuesSpec.plain.varTypes Tryz.prog).any (Tryz.prog.mapsRec ·))) = true := by kernel_rfl
theorem searchValues_j14 : ((Rows.searchValuesRow.ifaces == (Tryz.f4.params.toList ++ Rows.searchValuesSpec.plain.varTypes Tryz.prog).any (Tryz.prog.ifacesRec ·))) = true := by kernel_rfl
theorem searchValues_j15 : ((Rows.searchValuesRow.mapsOut == Tryz.prog.mapsAmong Tryz.f4.resultTypes.toList)) = true := by kernel_rfl
theorem searchValues_j16 : ((Rows.searchValuesRow.loops == (Tryz.f4.params.toList ++ Rows.searchValuesSpec.plain.varTypes Tryz.prog).any (Tryz.prog.loopsFrom ·))) = true := by kernel_rfl
theorem searchValues_j17 : ((Rows.searchValuesRow.wideKeys == (Tryz.f4.params.toList ++ Rows.searchValuesSpec.plain.varTypes Tryz.prog ++ Tryz.f4.resultTypes.toList).any (Tryz.prog.wideKeysFrom ·))) = true := by kernel_rfl
theorem searchValues_j18 : (Rows.searchValuesSpec.vars.all (Tryz.prog.varReadable ·)) = true := by kernel_rfl
theorem searchValues_j19 : (Tryz.f4.resultTypes.all (fun t => Tryz.prog.readableRec t && decide (t < Tryz.prog.types.size))) = true := by kernel_rfl
theorem searchValues_j20 : ((Rows.searchValuesRow.ifacesOut == Tryz.f4.resultTypes.toList.any (Tryz.prog.ifacesRec ·))) = true := by kernel_rfl
theorem searchValues_j21 : ((Rows.searchValuesRow.loopsOut == Tryz.f4.resultTypes.toList.any (Tryz.prog.loopsFrom ·))) = true := by kernel_rfl
theorem searchValues_j22 : ((Rows.searchValuesRow.plainKeys == Tryz.prog.plainKeys)) = true := by kernel_rfl
theorem searchValues_j23 : (Rows.searchValuesRow.shortTexts.isNone) = true := by kernel_rfl
theorem searchValues_j24 : (Tryz.prog.stopsHeard) = true := by kernel_rfl
theorem searchValues_j25 : (Tryz.prog.mayEnter) = true := by kernel_rfl
theorem searchValues_j26 : ((Rows.searchValuesRow.lifted == Tryz.prog.liftsFinal)) = true := by kernel_rfl
theorem searchValues_j27 : ((Tryz.prog.make == some Rows.searchValuesRow.make)) = true := by kernel_rfl
theorem searchValues_j28 : ((Rows.searchValuesRow.kinds == (if Rows.searchValuesRow.domain.isEmpty then [] else Tryz.f4.params.toList.map fun t => match Tryz.prog.underlying t with | some (.int k) => some k | _ => none))) = true := by kernel_rfl
theorem searchValues_j29 : ((Rows.searchValuesRow.pinned == Rows.searchValuesRow.pinnedBy)) = true := by kernel_rfl
theorem searchValues_j30 : ((Rows.searchValuesRow.veiled == (Tryz.f4.params.toList ++ Rows.searchValuesSpec.plain.varTypes Tryz.prog ++ Tryz.f4.resultTypes.toList).any (Tryz.prog.veiledRec ·))) = true := by kernel_rfl
theorem searchValues_j31 : (Rows.searchValuesRow.veiledFits Tryz.prog Tryz.f4.params.toList (Tryz.f4.params.toList ++ Rows.searchValuesSpec.plain.varTypes Tryz.prog ++ Tryz.f4.resultTypes.toList)) = true := by kernel_rfl
theorem searchValues_joined : joinedFacts Tryz.prog 4 Tryz.f4 Rows.searchValuesSpec Rows.searchValuesRow = true := by
  unfold joinedFacts
  iterate 31 rw [Bool.and_eq_true]
  exact ⟨⟨⟨⟨⟨⟨⟨⟨⟨⟨⟨⟨⟨⟨⟨⟨⟨⟨⟨⟨⟨⟨⟨⟨⟨⟨⟨⟨⟨⟨⟨searchValues_j0, searchValues_j1⟩, searchValues_j2⟩, searchValues_j3⟩, searchValues_j4⟩, searchValues_j5⟩, searchValues_j6⟩, searchValues_j7⟩, searchValues_j8⟩, searchValues_j9⟩, searchValues_j10⟩, searchValues_j11⟩, searchValues_j12⟩, searchValues_j13⟩, searchValues_j14⟩, searchValues_j15⟩, searchValues_j16⟩, searchValues_j17⟩, searchValues_j18⟩, searchValues_j19⟩, searchValues_j20⟩, searchValues_j21⟩, searchValues_j22⟩, searchValues_j23⟩, searchValues_j24⟩, searchValues_j25⟩, searchValues_j26⟩, searchValues_j27⟩, searchValues_j28⟩, searchValues_j29⟩, searchValues_j30⟩, searchValues_j31⟩
theorem searchValues_wf : Rows.searchValuesRow.wfByText (OpenSpec.ofChange Rows.searchValuesSpec) = true := by kernel_rfl
theorem searchValues_main : Tryz.prog.mainIs = some (true, "cb2bf198d57ee5f9def3aac962f1c42a35e3c1636470b598424f096dea3a5e42".toList) := by kernel_rfl
theorem searchValues_looks : true = Tryz.prog.looks [] := by kernel_rfl
theorem searchValues_goes : false = Rows.searchValuesRow.goesBy Tryz.prog := by kernel_rfl
theorem searchValues_named : Tryz.prog.funcNamed "interleave/interleavelaw21.SearchValues" = some 4 := by kernel_rfl
end Go.Proofs.YtemkchpdcgkeiaaGreatDoor
