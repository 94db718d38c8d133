/- ExploreCycles: the facts of the row. By program (mkclose.py). -/
import Derived.Test.YtemkchpdcgkeiaaGreatDoorCards
import Derived.Test.YtemkchpdcgkeiaaGreatDoorTie
import Derived.ProofKit
import Derived.SevenTiedAt
set_option linter.unusedSimpArgs false
set_option linter.unusedVariables false
namespace Go.Proofs.YtemkchpdcgkeiaaGreatDoor
open Go Go.RowKit Go.ChangeShapes Go.WideShapes
set_option linter.unusedVariables false
set_option maxRecDepth 100000
theorem exploreCycles_j0 : (Rows.exploreCyclesRow.wf (OpenSpec.ofChange Rows.exploreCyclesSpec)) = true := by kernel_rfl
theorem exploreCycles_j1 : (laidOutB Tryz.prog) = true := by kernel_rfl
theorem exploreCycles_j2 : (mapsRowed Tryz.prog) = true := by kernel_rfl
theorem exploreCycles_j3 : (Tryz.f8.params.all (Tryz.prog.readableRec ·)) = true := by kernel_rfl
theorem exploreCycles_j4 : (namedTie Tryz.prog Rows.exploreCyclesRow.named Rows.exploreCyclesSpec.vars) = true := by kernel_rfl
theorem exploreCycles_j5 : ((Rows.exploreCyclesRow.stops == [])) = true := by kernel_rfl
theorem exploreCycles_j6 : ((Tryz.prog.stops == [])) = true := by kernel_rfl
theorem exploreCycles_j7 : ((Rows.exploreCyclesRow.knobs == [])) = true := by kernel_rfl
theorem exploreCycles_j8 : ((Tryz.prog.stopKnobs == [])) = true := by kernel_rfl
theorem exploreCycles_j9 : ((Rows.exploreCyclesRow.inPlace == Tryz.prog.inPlace 8)) = true := by kernel_rfl
theorem exploreCycles_j10 : ((Rows.exploreCyclesRow.unfollowed == Tryz.prog.unfollowed 8)) = true := by kernel_rfl
theorem exploreCycles_j11 : ((Rows.exploreCyclesRow.recurses == Tryz.prog.recurses 8)) = true := by kernel_rfl
theorem exploreCycles_j12 : ((Rows.exploreCyclesRow.named == Tryz.prog.varsNamed 8)) = true := by kernel_rfl
theorem exploreCycles_j13 : ((Rows.exploreCyclesRow.maps == (Tryz.f8.params.toList ++ Rows.exploreCyclesSpec.plain.varTypes Tryz.prog).any (Tryz.prog.mapsRec ·))) = true := by kernel_rfl
theorem exploreCycles_j14 : ((Rows.exploreCyclesRow.ifaces == (Tryz.f8.params.toList ++ Rows.exploreCyclesSpec.plain.varTypes Tryz.prog).any (Tryz.prog.ifacesRec ·))) = true := by kernel_rfl
theorem exploreCycles_j15 : ((Rows.exploreCyclesRow.mapsOut == Tryz.prog.mapsAmong Tryz.f8.resultTypes.toList)) = true := by kernel_rfl
theorem exploreCycles_j16 : ((Rows.exploreCyclesRow.loops == (Tryz.f8.params.toList ++ Rows.exploreCyclesSpec.plain.varTypes Tryz.prog).any (Tryz.prog.loopsFrom ·))) = true := by kernel_rfl
theorem exploreCycles_j17 : ((Rows.exploreCyclesRow.wideKeys == (Tryz.f8.params.toList ++ Rows.exploreCyclesSpec.plain.varTypes Tryz.prog ++ Tryz.f8.resultTypes.toList).any (Tryz.prog.wideKeysFrom ·))) = true := by kernel_rfl
theorem exploreCycles_j18 : (Rows.exploreCyclesSpec.vars.all (Tryz.prog.varReadable ·)) = true := by kernel_rfl
theorem exploreCycles_j19 : (Tryz.f8.resultTypes.all (fun t => Tryz.prog.readableRec t && decide (t < Tryz.prog.types.size))) = true := by kernel_rfl
theorem exploreCycles_j20 : ((Rows.exploreCyclesRow.ifacesOut == Tryz.f8.resultTypes.toList.any (Tryz.prog.ifacesRec ·))) = true := by kernel_rfl
theorem exploreCycles_j21 : ((Rows.exploreCyclesRow.loopsOut == Tryz.f8.resultTypes.toList.any (Tryz.prog.loopsFrom ·))) = true := by kernel_rfl
theorem exploreCycles_j22 : ((Rows.exploreCyclesRow.plainKeys == Tryz.prog.plainKeys)) = true := by kernel_rfl
theorem exploreCycles_j23 : (Rows.exploreCyclesRow.shortTexts.isNone) = true := by kernel_rfl
theorem exploreCycles_j24 : (Tryz.prog.stopsHeard) = true := by kernel_rfl
theorem exploreCycles_j25 : (Tryz.prog.mayEnter) = true := by kernel_rfl
theorem exploreCycles_j26 : ((Rows.exploreCyclesRow.lifted == Tryz.prog.liftsFinal)) = true := by kernel_rfl
theorem exploreCycles_j27 : ((Tryz.prog.make == some Rows.exploreCyclesRow.make)) = true := by kernel_rfl
theorem exploreCycles_j28 : ((Rows.exploreCyclesRow.kinds == (if Rows.exploreCyclesRow.domain.isEmpty then [] else Tryz.f8.params.toList.map fun t => match Tryz.prog.underlying t with | some (.int k) => some k | _ => none))) = true := by kernel_rfl
theorem exploreCycles_j29 : ((Rows.exploreCyclesRow.pinned == Rows.exploreCyclesRow.pinnedBy)) = true := by kernel_rfl
theorem exploreCycles_j30 : ((Rows.exploreCyclesRow.veiled == (Tryz.f8.params.toList ++ Rows.exploreCyclesSpec.plain.varTypes Tryz.prog ++ Tryz.f8.resultTypes.toList).any (Tryz.prog.veiledRec ·))) = true := by kernel_rfl
theorem exploreCycles_j31 : (Rows.exploreCyclesRow.veiledFits Tryz.prog Tryz.f8.params.toList (Tryz.f8.params.toList ++ Rows.exploreCyclesSpec.plain.varTypes Tryz.prog ++ Tryz.f8.resultTypes.toList)) = true := by kernel_rfl
theorem exploreCycles_joined : joinedFacts Tryz.prog 8 Tryz.f8 Rows.exploreCyclesSpec Rows.exploreCyclesRow = true := by
  unfold joinedFacts
  iterate 31 rw [Bool.and_eq_true]
  exact ⟨⟨⟨⟨⟨⟨⟨⟨⟨⟨⟨⟨⟨⟨⟨⟨⟨⟨⟨⟨⟨⟨⟨⟨⟨⟨⟨⟨⟨⟨⟨exploreCycles_j0, exploreCycles_j1⟩, exploreCycles_j2⟩, exploreCycles_j3⟩, exploreCycles_j4⟩, exploreCycles_j5⟩, exploreCycles_j6⟩, exploreCycles_j7⟩, exploreCycles_j8⟩, exploreCycles_j9⟩, exploreCycles_j10⟩, exploreCycles_j11⟩, exploreCycles_j12⟩, exploreCycles_j13⟩, exploreCycles_j14⟩, exploreCycles_j15⟩, exploreCycles_j16⟩, exploreCycles_j17⟩, exploreCycles_j18⟩, exploreCycles_j19⟩, exploreCycles_j20⟩, exploreCycles_j21⟩, exploreCycles_j22⟩, exploreCycles_j23⟩, exploreCycles_j24⟩, exploreCycles_j25⟩, exploreCycles_j26⟩, exploreCycles_j27⟩, exploreCycles_j28⟩, exploreCycles_j29⟩, exploreCycles_j30⟩, exploreCycles_j31⟩
theorem exploreCycles_wf : Rows.exploreCyclesRow.wfByText (OpenSpec.ofChange Rows.exploreCyclesSpec) = true := by kernel_rfl
theorem exploreCycles_main : Tryz.prog.mainIs = some (true, "cb2bf198d57ee5f9def3aac962f1c42a35e3c1636470b598424f096dea3a5e42".toList) := by kernel_rfl
theorem exploreCycles_looks : true = Tryz.prog.looks [] := by kernel_rfl
theorem exploreCycles_goes : false = Rows.exploreCyclesRow.goesBy Tryz.prog := by kernel_rfl
theorem exploreCycles_named : Tryz.prog.funcNamed "interleave/interleavelaw10.ExploreCycles" = some 8 := by kernel_rfl
end Go.Proofs.YtemkchpdcgkeiaaGreatDoor
