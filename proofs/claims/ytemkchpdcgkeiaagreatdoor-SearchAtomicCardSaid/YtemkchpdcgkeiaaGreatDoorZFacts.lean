/- SearchAtomic: the facts of the row. By program (mkclose.py). -/
import Derived.Test.YtemkchpdcgkeiaaGreatDoorCards
import Derived.Test.YtemkchpdcgkeiaaGreatDoorTie
import Derived.ProofKit
import Derived.SevenTiedAt
set_option linter.unusedSimpArgs false
set_option linter.unusedVariables false
namespace Go.Proofs.YtemkchpdcgkeiaaGreatDoor
open Go Go.RowKit Go.ChangeShapes Go.WideShapes
set_option linter.unusedVariables false
set_option maxRecDepth 100000
theorem searchAtomic_j0 : (Rows.searchAtomicRow.wf (OpenSpec.ofChange Rows.searchAtomicSpec)) = true := by kernel_rfl
theorem searchAtomic_j1 : (laidOutB Tryz.prog) = true := by kernel_rfl
theorem searchAtomic_j2 : (mapsRowed Tryz.prog) = true := by kernel_rfl
theorem searchAtomic_j3 : (Tryz.f6.params.all (Tryz.prog.readableRec ·)) = true := by kernel_rfl
theorem searchAtomic_j4 : (namedTie Tryz.prog Rows.searchAtomicRow.named Rows.searchAtomicSpec.vars) = true := by kernel_rfl
theorem searchAtomic_j5 : ((Rows.searchAtomicRow.stops == [])) = true := by kernel_rfl
theorem searchAtomic_j6 : ((Tryz.prog.stops == [])) = true := by kernel_rfl
theorem searchAtomic_j7 : ((Rows.searchAtomicRow.knobs == [])) = true := by kernel_rfl
theorem searchAtomic_j8 : ((Tryz.prog.stopKnobs == [])) = true := by kernel_rfl
theorem searchAtomic_j9 : ((Rows.searchAtomicRow.inPlace == Tryz.prog.inPlace 6)) = true := by kernel_rfl
theorem searchAtomic_j10 : ((Rows.searchAtomicRow.unfollowed == Tryz.prog.unfollowed 6)) = true := by kernel_rfl
theorem searchAtomic_j11 : ((Rows.searchAtomicRow.recurses == Tryz.prog.recurses 6)) = true := by kernel_rfl
theorem searchAtomic_j12 : ((Rows.searchAtomicRow.named == Tryz.prog.varsNamed 6)) = true := by kernel_rfl
theorem searchAtomic_j13 : ((Rows.searchAtomicRow.maps == (Tryz.f6.params.toList ++ Rows.searchAtomicSpec.plain.varTypes Tryz.prog).any (Tryz.prog.mapsRec ·))) = true := by kernel_rfl
theorem searchAtomic_j14 : ((Rows.searchAtomicRow.ifaces == (Tryz.f6.params.toList ++ Rows.searchAtomicSpec.plain.varTypes Tryz.prog).any (Tryz.prog.ifacesRec ·))) = true := by kernel_rfl
theorem searchAtomic_j15 : ((Rows.searchAtomicRow.mapsOut == Tryz.prog.mapsAmong Tryz.f6.resultTypes.toList)) = true := by kernel_rfl
theorem searchAtomic_j16 : ((Rows.searchAtomicRow.loops == (Tryz.f6.params.toList ++ Rows.searchAtomicSpec.plain.varTypes Tryz.prog).any (Tryz.prog.loopsFrom ·))) = true := by kernel_rfl
theorem searchAtomic_j17 : ((Rows.searchAtomicRow.wideKeys == (Tryz.f6.params.toList ++ Rows.searchAtomicSpec.plain.varTypes Tryz.prog ++ Tryz.f6.resultTypes.toList).any (Tryz.prog.wideKeysFrom ·))) = true := by kernel_rfl
theorem searchAtomic_j18 : (Rows.searchAtomicSpec.vars.all (Tryz.prog.varReadable ·)) = true := by kernel_rfl
theorem searchAtomic_j19 : (Tryz.f6.resultTypes.all (fun t => Tryz.prog.readableRec t && decide (t < Tryz.prog.types.size))) = true := by kernel_rfl
theorem searchAtomic_j20 : ((Rows.searchAtomicRow.ifacesOut == Tryz.f6.resultTypes.toList.any (Tryz.prog.ifacesRec ·))) = true := by kernel_rfl
theorem searchAtomic_j21 : ((Rows.searchAtomicRow.loopsOut == Tryz.f6.resultTypes.toList.any (Tryz.prog.loopsFrom ·))) = true := by kernel_rfl
theorem searchAtomic_j22 : ((Rows.searchAtomicRow.plainKeys == Tryz.prog.plainKeys)) = true := by kernel_rfl
theorem searchAtomic_j23 : (Rows.searchAtomicRow.shortTexts.isNone) = true := by kernel_rfl
theorem searchAtomic_j24 : (Tryz.prog.stopsHeard) = true := by kernel_rfl
theorem searchAtomic_j25 : (Tryz.prog.mayEnter) = true := by kernel_rfl
theorem searchAtomic_j26 : ((Rows.searchAtomicRow.lifted == Tryz.prog.liftsFinal)) = true := by kernel_rfl
theorem searchAtomic_j27 : ((Tryz.prog.make == some Rows.searchAtomicRow.make)) = true := by kernel_rfl
theorem searchAtomic_j28 : ((Rows.searchAtomicRow.kinds == (if Rows.searchAtomicRow.domain.isEmpty then [] else Tryz.f6.params.toList.map fun t => match Tryz.prog.underlying t with | some (.int k) => some k | _ => none))) = true := by kernel_rfl
theorem searchAtomic_j29 : ((Rows.searchAtomicRow.pinned == Rows.searchAtomicRow.pinnedBy)) = true := by kernel_rfl
theorem searchAtomic_j30 : ((Rows.searchAtomicRow.veiled == (Tryz.f6.params.toList ++ Rows.searchAtomicSpec.plain.varTypes Tryz.prog ++ Tryz.f6.resultTypes.toList).any (Tryz.prog.veiledRec ·))) = true := by kernel_rfl
theorem searchAtomic_j31 : (Rows.searchAtomicRow.veiledFits Tryz.prog Tryz.f6.params.toList (Tryz.f6.params.toList ++ Rows.searchAtomicSpec.plain.varTypes Tryz.prog ++ Tryz.f6.resultTypes.toList)) = true := by kernel_rfl
theorem searchAtomic_joined : joinedFacts Tryz.prog 6 Tryz.f6 Rows.searchAtomicSpec Rows.searchAtomicRow = true := by
  unfold joinedFacts
  iterate 31 rw [Bool.and_eq_true]
  exact ⟨⟨⟨⟨⟨⟨⟨⟨⟨⟨⟨⟨⟨⟨⟨⟨⟨⟨⟨⟨⟨⟨⟨⟨⟨⟨⟨⟨⟨⟨⟨searchAtomic_j0, searchAtomic_j1⟩, searchAtomic_j2⟩, searchAtomic_j3⟩, searchAtomic_j4⟩, searchAtomic_j5⟩, searchAtomic_j6⟩, searchAtomic_j7⟩, searchAtomic_j8⟩, searchAtomic_j9⟩, searchAtomic_j10⟩, searchAtomic_j11⟩, searchAtomic_j12⟩, searchAtomic_j13⟩, searchAtomic_j14⟩, searchAtomic_j15⟩, searchAtomic_j16⟩, searchAtomic_j17⟩, searchAtomic_j18⟩, searchAtomic_j19⟩, searchAtomic_j20⟩, searchAtomic_j21⟩, searchAtomic_j22⟩, searchAtomic_j23⟩, searchAtomic_j24⟩, searchAtomic_j25⟩, searchAtomic_j26⟩, searchAtomic_j27⟩, searchAtomic_j28⟩, searchAtomic_j29⟩, searchAtomic_j30⟩, searchAtomic_j31⟩
theorem searchAtomic_wf : Rows.searchAtomicRow.wfByText (OpenSpec.ofChange Rows.searchAtomicSpec) = true := by kernel_rfl
theorem searchAtomic_main : Tryz.prog.mainIs = some (true, "cb2bf198d57ee5f9def3aac962f1c42a35e3c1636470b598424f096dea3a5e42".toList) := by kernel_rfl
theorem searchAtomic_looks : true = Tryz.prog.looks [] := by kernel_rfl
theorem searchAtomic_goes : false = Rows.searchAtomicRow.goesBy Tryz.prog := by kernel_rfl
theorem searchAtomic_named : Tryz.prog.funcNamed "interleave/interleavelaw21.SearchAtomic" = some 6 := by kernel_rfl
end Go.Proofs.YtemkchpdcgkeiaaGreatDoor
