/- ExploreLocks: the facts of the row. By program (mkclose.py). -/
import Derived.Test.YtemkchpdcgkeiaaGreatDoorCards
import Derived.Test.YtemkchpdcgkeiaaGreatDoorTie
import Derived.ProofKit
import Derived.SevenTiedAt
set_option linter.unusedSimpArgs false
set_option linter.unusedVariables false
namespace Go.Proofs.YtemkchpdcgkeiaaGreatDoor
open Go Go.RowKit Go.ChangeShapes Go.WideShapes
set_option linter.unusedVariables false
set_option maxRecDepth 100000
theorem exploreLocks_j0 : (Rows.exploreLocksRow.wf (OpenSpec.ofChange Rows.exploreLocksSpec)) = true := by kernel_rfl
theorem exploreLocks_j1 : (laidOutB Tryz.prog) = true := by kernel_rfl
theorem exploreLocks_j2 : (mapsRowed Tryz.prog) = true := by kernel_rfl
theorem exploreLocks_j3 : (Tryz.f7.params.all (Tryz.prog.readableRec ·)) = true := by kernel_rfl
theorem exploreLocks_j4 : (namedTie Tryz.prog Rows.exploreLocksRow.named Rows.exploreLocksSpec.vars) = true := by kernel_rfl
theorem exploreLocks_j5 : ((Rows.exploreLocksRow.stops == [])) = true := by kernel_rfl
theorem exploreLocks_j6 : ((Tryz.prog.stops == [])) = true := by kernel_rfl
theorem exploreLocks_j7 : ((Rows.exploreLocksRow.knobs == [])) = true := by kernel_rfl
theorem exploreLocks_j8 : ((Tryz.prog.stopKnobs == [])) = true := by kernel_rfl
theorem exploreLocks_j9 : ((Rows.exploreLocksRow.inPlace == Tryz.prog.inPlace 7)) = true := by kernel_rfl
theorem exploreLocks_j10 : ((Rows.exploreLocksRow.unfollowed == Tryz.prog.unfollowed 7)) = true := by kernel_rfl
theorem exploreLocks_j11 : ((Rows.exploreLocksRow.recurses == Tryz.prog.recurses 7)) = true := by kernel_rfl
theorem exploreLocks_j12 : ((Rows.exploreLocksRow.named == Tryz.prog.varsNamed 7)) = true := by kernel_rfl
theorem exploreLocks_j13 : ((Rows.exploreLocksRow.maps == (Tryz.f7.params.toList ++ Rows.exploreLocksSpec.plain.varTypes Tryz.prog).any (Tryz.prog.mapsRec ·))) = true := by kernel_rfl
theorem exploreLocks_j14 : ((Rows.exploreLocksRow.ifaces == (Tryz.f7.params.toList ++ Rows.exploreLocksSpec.plain.varTypes Tryz.prog).any (Tryz.prog.ifacesRec ·))) = true := by kernel_rfl
theorem exploreLocks_j15 : ((Rows.exploreLocksRow.mapsOut == Tryz.prog.mapsAmong Tryz.f7.resultTypes.toList)) = true := by kernel_rfl
theorem exploreLocks_j16 : ((Rows.exploreLocksRow.loops == (Tryz.f7.params.toList ++ Rows.exploreLocksSpec.plain.varTypes Tryz.prog).any (Tryz.prog.loopsFrom ·))) = true := by kernel_rfl
theorem exploreLocks_j17 : ((Rows.exploreLocksRow.wideKeys == (Tryz.f7.params.toList ++ Rows.exploreLocksSpec.plain.varTypes Tryz.prog ++ Tryz.f7.resultTypes.toList).any (Tryz.prog.wideKeysFrom ·))) = true := by kernel_rfl
theorem exploreLocks_j18 : (Rows.exploreLocksSpec.vars.all (Tryz.prog.varReadable ·)) = true := by kernel_rfl
theorem exploreLocks_j19 : (Tryz.f7.resultTypes.all (fun t => Tryz.prog.readableRec t && decide (t < Tryz.prog.types.size))) = true := by kernel_rfl
theorem exploreLocks_j20 : ((Rows.exploreLocksRow.ifacesOut == Tryz.f7.resultTypes.toList.any (Tryz.prog.ifacesRec ·))) = true := by kernel_rfl
theorem exploreLocks_j21 : ((Rows.exploreLocksRow.loopsOut == Tryz.f7.resultTypes.toList.any (Tryz.prog.loopsFrom ·))) = true := by kernel_rfl
theorem exploreLocks_j22 : ((Rows.exploreLocksRow.plainKeys == Tryz.prog.plainKeys)) = true := by kernel_rfl
theorem exploreLocks_j23 : (Rows.exploreLocksRow.shortTexts.isNone) = true := by kernel_rfl
theorem exploreLocks_j24 : (Tryz.prog.stopsHeard) = true := by kernel_rfl
theorem exploreLocks_j25 : (Tryz.prog.mayEnter) = true := by kernel_rfl
theorem exploreLocks_j26 : ((Rows.exploreLocksRow.lifted == Tryz.prog.liftsFinal)) = true := by kernel_rfl
theorem exploreLocks_j27 : ((Tryz.prog.make == some Rows.exploreLocksRow.make)) = true := by kernel_rfl
theorem exploreLocks_j28 : ((Rows.exploreLocksRow.kinds == (if Rows.exploreLocksRow.domain.isEmpty then [] else Tryz.f7.params.toList.map fun t => match Tryz.prog.underlying t with | some (.int k) => some k | _ => none))) = true := by kernel_rfl
theorem exploreLocks_j29 : ((Rows.exploreLocksRow.pinned == Rows.exploreLocksRow.pinnedBy)) = true := by kernel_rfl
theorem exploreLocks_j30 : ((Rows.exploreLocksRow.veiled == (Tryz.f7.params.toList ++ Rows.exploreLocksSpec.plain.varTypes Tryz.prog ++ Tryz.f7.resultTypes.toList).any (Tryz.prog.veiledRec ·))) = true := by kernel_rfl
theorem exploreLocks_j31 : (Rows.exploreLocksRow.veiledFits Tryz.prog Tryz.f7.params.toList (Tryz.f7.params.toList ++ Rows.exploreLocksSpec.plain.varTypes Tryz.prog ++ Tryz.f7.resultTypes.toList)) = true := by kernel_rfl
theorem exploreLocks_joined : joinedFacts Tryz.prog 7 Tryz.f7 Rows.exploreLocksSpec Rows.exploreLocksRow = true := by
  unfold joinedFacts
  iterate 31 rw [Bool.and_eq_true]
  exact ⟨⟨⟨⟨⟨⟨⟨⟨⟨⟨⟨⟨⟨⟨⟨⟨⟨⟨⟨⟨⟨⟨⟨⟨⟨⟨⟨⟨⟨⟨⟨exploreLocks_j0, exploreLocks_j1⟩, exploreLocks_j2⟩, exploreLocks_j3⟩, exploreLocks_j4⟩, exploreLocks_j5⟩, exploreLocks_j6⟩, exploreLocks_j7⟩, exploreLocks_j8⟩, exploreLocks_j9⟩, exploreLocks_j10⟩, exploreLocks_j11⟩, exploreLocks_j12⟩, exploreLocks_j13⟩, exploreLocks_j14⟩, exploreLocks_j15⟩, exploreLocks_j16⟩, exploreLocks_j17⟩, exploreLocks_j18⟩, exploreLocks_j19⟩, exploreLocks_j20⟩, exploreLocks_j21⟩, exploreLocks_j22⟩, exploreLocks_j23⟩, exploreLocks_j24⟩, exploreLocks_j25⟩, exploreLocks_j26⟩, exploreLocks_j27⟩, exploreLocks_j28⟩, exploreLocks_j29⟩, exploreLocks_j30⟩, exploreLocks_j31⟩
theorem exploreLocks_wf : Rows.exploreLocksRow.wfByText (OpenSpec.ofChange Rows.exploreLocksSpec) = true := by kernel_rfl
theorem exploreLocks_main : Tryz.prog.mainIs = some (true, "cb2bf198d57ee5f9def3aac962f1c42a35e3c1636470b598424f096dea3a5e42".toList) := by kernel_rfl
theorem exploreLocks_looks : true = Tryz.prog.looks [] := by kernel_rfl
theorem exploreLocks_goes : false = Rows.exploreLocksRow.goesBy Tryz.prog := by kernel_rfl
theorem exploreLocks_named : Tryz.prog.funcNamed "interleave/interleavelaw10.ExploreLocks" = some 7 := by kernel_rfl
end Go.Proofs.YtemkchpdcgkeiaaGreatDoor
