/- ExploreInvalid: the facts of the row. By program (mkfacts.py). -/
import Derived.Test.YtddpfdjgppabhaaGreatDoorDTab
import Derived.Test.YtddpfdjgppabhaaGreatDoorTiJ5
import Derived.Lay
import Derived.LaidOnce
import Derived.Test.YtddpfdjgppabhaaGreatDoorCards
import Derived.Test.YtddpfdjgppabhaaGreatDoorTie
import Derived.ProofKit
import Derived.SevenTiedAt
set_option linter.unusedSimpArgs false
set_option linter.unusedVariables false
namespace Go.Proofs.YtddpfdjgppabhaaGreatDoor
open Go Go.TI Go.RowKit Go.ChangeShapes Go.WideShapes
set_option linter.unusedVariables false
set_option maxRecDepth 100000
theorem exploreInvalid_j0 : (Rows.exploreInvalidRow.wf (OpenSpec.ofChange Rows.exploreInvalidSpec)) = true := by kernel_rfl
theorem exploreInvalid_j1 : (laidOutB Tryz.prog) = true := by kernel_rfl
theorem exploreInvalid_j2 : (mapsRowed Tryz.prog) = true := by kernel_rfl
theorem exploreInvalid_j3 : (Tryz.f3.params.all (Tryz.prog.readableRec ·)) = true := by kernel_rfl
theorem exploreInvalid_j4 : (namedTie Tryz.prog Rows.exploreInvalidRow.named Rows.exploreInvalidSpec.vars) = true := by kernel_rfl
theorem exploreInvalid_j5 : ((Rows.exploreInvalidRow.stops == [])) = true := by kernel_rfl
theorem exploreInvalid_j6 : ((Tryz.prog.stops == [])) = true := by kernel_rfl
theorem exploreInvalid_j7 : ((Rows.exploreInvalidRow.knobs == [])) = true := by kernel_rfl
theorem exploreInvalid_j8 : ((Tryz.prog.stopKnobs == [])) = true := by kernel_rfl
theorem exploreInvalid_j9 : ((Rows.exploreInvalidRow.inPlace == Tryz.prog.inPlace 3)) = true := by kernel_rfl
theorem exploreInvalid_j10 : ((Rows.exploreInvalidRow.unfollowed == Tryz.prog.unfollowed 3)) = true := by kernel_rfl
theorem exploreInvalid_j11 : ((Rows.exploreInvalidRow.recurses == Tryz.prog.recurses 3)) = true := by kernel_rfl
theorem exploreInvalid_j12 : ((Rows.exploreInvalidRow.named == Tryz.prog.varsNamed 3)) = true := by kernel_rfl
theorem exploreInvalid_j13 : ((Rows.exploreInvalidRow.maps == (Tryz.f3.params.toList ++ Rows.exploreInvalidSpec.plain.varTypes Tryz.prog).any (Tryz.prog.mapsRec ·))) = true := by kernel_rfl
theorem exploreInvalid_j14 : ((Rows.exploreInvalidRow.ifaces == (Tryz.f3.params.toList ++ Rows.exploreInvalidSpec.plain.varTypes Tryz.prog).any (Tryz.prog.ifacesRec ·))) = true := by kernel_rfl
theorem exploreInvalid_j15 : ((Rows.exploreInvalidRow.mapsOut == Tryz.prog.mapsAmong Tryz.f3.resultTypes.toList)) = true := by kernel_rfl
theorem exploreInvalid_j16 : ((Rows.exploreInvalidRow.loops == (Tryz.f3.params.toList ++ Rows.exploreInvalidSpec.plain.varTypes Tryz.prog).any (Tryz.prog.loopsFrom ·))) = true := by kernel_rfl
theorem exploreInvalid_j17 : ((Rows.exploreInvalidRow.wideKeys == (Tryz.f3.params.toList ++ Rows.exploreInvalidSpec.plain.varTypes Tryz.prog ++ Tryz.f3.resultTypes.toList).any (Tryz.prog.wideKeysFrom ·))) = true := by kernel_rfl
theorem exploreInvalid_j18 : (Rows.exploreInvalidSpec.vars.all (Tryz.prog.varReadable ·)) = true := by kernel_rfl
theorem exploreInvalid_j19 : (Tryz.f3.resultTypes.all (fun t => Tryz.prog.readableRec t && decide (t < Tryz.prog.types.size))) = true := by kernel_rfl
theorem exploreInvalid_j20 : ((Rows.exploreInvalidRow.ifacesOut == Tryz.f3.resultTypes.toList.any (Tryz.prog.ifacesRec ·))) = true := by kernel_rfl
theorem exploreInvalid_j21 : ((Rows.exploreInvalidRow.loopsOut == Tryz.f3.resultTypes.toList.any (Tryz.prog.loopsFrom ·))) = true := by kernel_rfl
theorem exploreInvalid_j22 : ((Rows.exploreInvalidRow.plainKeys == Tryz.prog.plainKeys)) = true := by kernel_rfl
theorem exploreInvalid_j23 : (Rows.exploreInvalidRow.shortTexts.isNone) = true := by kernel_rfl
theorem exploreInvalid_j24 : (Tryz.prog.stopsHeard) = true := by kernel_rfl
theorem exploreInvalid_j25 : (Tryz.prog.mayEnter) = true := by kernel_rfl
theorem exploreInvalid_j26 : ((Rows.exploreInvalidRow.lifted == Tryz.prog.liftsFinal)) = true := by kernel_rfl
theorem exploreInvalid_j27 : ((Tryz.prog.make == some Rows.exploreInvalidRow.make)) = true := by kernel_rfl
theorem exploreInvalid_j28 : ((Rows.exploreInvalidRow.kinds == (if Rows.exploreInvalidRow.domain.isEmpty then [] else Tryz.f3.params.toList.map fun t => match Tryz.prog.underlying t with | some (.int k) => some k | _ => none))) = true := by kernel_rfl
theorem exploreInvalid_j29 : ((Rows.exploreInvalidRow.pinned == Rows.exploreInvalidRow.pinnedBy)) = true := by kernel_rfl
theorem exploreInvalid_j30 : ((Rows.exploreInvalidRow.veiled == (Tryz.f3.params.toList ++ Rows.exploreInvalidSpec.plain.varTypes Tryz.prog ++ Tryz.f3.resultTypes.toList).any (Tryz.prog.veiledRec ·))) = true := by kernel_rfl
theorem exploreInvalid_j31 : (Rows.exploreInvalidRow.veiledFits Tryz.prog Tryz.f3.params.toList (Tryz.f3.params.toList ++ Rows.exploreInvalidSpec.plain.varTypes Tryz.prog ++ Tryz.f3.resultTypes.toList)) = true := by kernel_rfl
theorem exploreInvalid_joined : joinedFacts Tryz.prog 3 Tryz.f3 Rows.exploreInvalidSpec Rows.exploreInvalidRow = true := by
  unfold joinedFacts
  iterate 31 rw [Bool.and_eq_true]
  exact ⟨⟨⟨⟨⟨⟨⟨⟨⟨⟨⟨⟨⟨⟨⟨⟨⟨⟨⟨⟨⟨⟨⟨⟨⟨⟨⟨⟨⟨⟨⟨exploreInvalid_j0, exploreInvalid_j1⟩, exploreInvalid_j2⟩, exploreInvalid_j3⟩, exploreInvalid_j4⟩, exploreInvalid_j5⟩, exploreInvalid_j6⟩, exploreInvalid_j7⟩, exploreInvalid_j8⟩, exploreInvalid_j9⟩, exploreInvalid_j10⟩, exploreInvalid_j11⟩, exploreInvalid_j12⟩, exploreInvalid_j13⟩, exploreInvalid_j14⟩, exploreInvalid_j15⟩, exploreInvalid_j16⟩, exploreInvalid_j17⟩, exploreInvalid_j18⟩, exploreInvalid_j19⟩, exploreInvalid_j20⟩, exploreInvalid_j21⟩, exploreInvalid_j22⟩, exploreInvalid_j23⟩, exploreInvalid_j24⟩, exploreInvalid_j25⟩, exploreInvalid_j26⟩, exploreInvalid_j27⟩, exploreInvalid_j28⟩, exploreInvalid_j29⟩, exploreInvalid_j30⟩, exploreInvalid_j31⟩
theorem exploreInvalid_wf : Rows.exploreInvalidRow.wfByText (OpenSpec.ofChange Rows.exploreInvalidSpec) = true := by kernel_rfl
theorem exploreInvalid_main : Tryz.prog.mainIs = some (true, "ae410b683af9e573717e15128b96ca8bf26712b9c751e990e75959c585e994aa".toList) := by kernel_rfl
theorem exploreInvalid_looks : true = Tryz.prog.looks [] := by kernel_rfl
theorem exploreInvalid_goes : false = Rows.exploreInvalidRow.goesBy Tryz.prog := by kernel_rfl
theorem exploreInvalid_named : Tryz.prog.funcNamed "interleave/interleavelaw10.ExploreInvalid" = some 3 := by kernel_rfl
def kw0 : List Int := [0, 0, 0, 0, 0, 0, 3, 3, 4, 4, 5, 6, 7, 8, 9, 10, 11, 12, 13, 14, 15, 16, 18, 19, 20, 21, 22, 23, 2]
def kw1 : List (List UInt8) := [[118, 97, 114], [118, 111, 108, 97, 116, 105, 108, 101], [109, 117, 116, 101, 120], [114, 119, 108, 111, 99, 107], [99, 111, 110, 100], [102, 117, 116, 117, 114, 101], [116, 104, 114, 101, 97, 100], [105, 102], [101, 108, 115, 101], [119, 104, 105, 108, 101], [108, 111, 99, 107], [114, 101, 97, 100], [119, 114, 105, 116, 101], [116, 114, 97, 110, 115, 97, 99, 116, 105, 111, 110], [97, 116, 111, 109, 105, 99], [119, 97, 105, 116], [110, 111, 116, 105, 102, 121], [110, 111, 116, 105, 102, 121, 97, 108, 108], [115, 112, 97, 119, 110], [106, 111, 105, 110], [115, 101, 116], [103, 101, 116]]
def kw2 : List Int := [1, 10, 100, 1000, 10000, 100000, 1000000, 10000000, 100000000, 1000000000, 10000000000, 100000000000, 1000000000000, 10000000000000, 100000000000000, 1000000000000000, 10000000000000000, 100000000000000000, 1000000000000000000, 10000000000000000000]
def kw4 : List Int := [0, 1, 28, 2, 29, 14, 24, 3, 30, 22, 20, 15, 25, 17, 4, 8, 31, 27, 13, 23, 21, 19, 16, 7, 26, 12, 18, 6, 11, 5, 10, 9]
def kw5 : List Int := [0, 1, 56, 2, 57, 49, 28, 3, 61, 58, 42, 50, 38, 29, 17, 4, 62, 47, 59, 36, 45, 43, 51, 22, 53, 39, 33, 30, 24, 18, 12, 5, 63, 55, 48, 27, 60, 41, 37, 16, 46, 35, 44, 21, 52, 32, 23, 11, 54, 26, 40, 15, 34, 20, 31, 10, 25, 14, 19, 9, 13, 8, 7, 6]
theorem glsAll (W : World) (hL : laidMet Tryz.prog Rows.exploreInvalidRow.laid W) : gls.All fun g cs => RelV W.heap noMu (.tptr cs) (.pointer (some ⟨g, 0, none⟩)) := (.node (.node (.node .nil (glob_ints (P := Tryz.prog) (w := W) (name := "interleave/run.kinds") (g := 0) (k := 29) (t := 203) (e := 3) (ki := .i64) (zs := kw0) (cs := gl0) (by kernel_rfl) (by kernel_rfl) (by kernel_rfl) (by kernel_rfl) (by kernel_rfl) (by kernel_rfl) (by kernel_rfl) (by kernel_rfl) (Lib.laidMet.reads hL (by simp [Rows.exploreInvalidRow, kw0, Rows.laid_interleave_run_kinds]))) .nil) (glob_strings (P := Tryz.prog) (w := W) (name := "interleave/token.keywords") (g := 1) (k := 22) (t := 306) (e := 9) (ss := kw1) (cs := gl1) (by kernel_rfl) (by kernel_rfl) (by kernel_rfl) (by kernel_rfl) (by kernel_rfl) (by kernel_rfl) (by kernel_rfl) (by kernel_rfl) (Lib.laidMet.reads hL (by simp [Rows.exploreInvalidRow, kw1, Rows.laid_interleave_token_keywords]))) .nil) (glob_ints (P := Tryz.prog) (w := W) (name := "internal/strconv.uint64pow10") (g := 2) (k := 20) (t := 333) (e := 216) (ki := .u64) (zs := kw2) (cs := gl2) (by kernel_rfl) (by kernel_rfl) (by kernel_rfl) (by kernel_rfl) (by kernel_rfl) (by kernel_rfl) (by kernel_rfl) (by kernel_rfl) (Lib.laidMet.reads hL (by simp [Rows.exploreInvalidRow, kw2, Rows.laid_internal_strconv_uint64pow10]))) (.node (.node .nil (glob_ints (P := Tryz.prog) (w := W) (name := "math/bits.deBruijn32tab") (g := 4) (k := 32) (t := 349) (e := 5) (ki := .u8) (zs := kw4) (cs := gl4) (by kernel_rfl) (by kernel_rfl) (by kernel_rfl) (by kernel_rfl) (by kernel_rfl) (by kernel_rfl) (by kernel_rfl) (by kernel_rfl) (Lib.laidMet.reads hL (by simp [Rows.exploreInvalidRow, kw4, Rows.laid_math_bits_deBruijn32tab]))) .nil) (glob_ints (P := Tryz.prog) (w := W) (name := "math/bits.deBruijn64tab") (g := 5) (k := 64) (t := 350) (e := 5) (ki := .u8) (zs := kw5) (cs := gl5) (by kernel_rfl) (by kernel_rfl) (by kernel_rfl) (by kernel_rfl) (by kernel_rfl) (by kernel_rfl) (by kernel_rfl) (by kernel_rfl) (Lib.laidMet.reads hL (by simp [Rows.exploreInvalidRow, kw5, Rows.laid_math_bits_deBruijn64tab]))) .nil))
theorem own : ownKnob Tryz.prog.godebug = none := by kernel_rfl
end Go.Proofs.YtddpfdjgppabhaaGreatDoor
