/- A part of the run. By program (mkrunp.py). -/
import Derived.Test.YtemkchpdcgkeiaaGreatDoorZRun0
set_option linter.unusedSimpArgs false
set_option linter.unusedVariables false
namespace Go.Proofs.YtemkchpdcgkeiaaGreatDoor
open Go Go.TI
set_option linter.unusedVariables false
set_option maxRecDepth 100000
/- interleave/explore.Races, 116464 operations -/
def a5 : List T := [l10, (.int .i64 10)]
def r5 : T := (.tree [] false)
theorem run5 : callP ((14, []) :: t5) ft 100000 14 a5 ⟨0, 0, []⟩ = some (r5, ⟨0, 0, []⟩) := by kernel_rfl
abbrev es6 : List (List T × T) := (a5, r5) :: []
abbrev t6 : PTab := (14, es6) :: t5
theorem p6 : POk Tryz.prog cx t6 := POk.next qsOk (POk.new (f := 14) p5) (by kernel_rfl) run5
/- interleave/compile.ValidWorld, 648 operations -/
def a6 : List T := [(.agg [l0, (.tree [] false), (.tree [] false), (.tree [] false), (.tree [(.str [116])] false), (.tree [l1] false)])]
def r6 : T := (.bool true)
theorem run6 : callP ((216, []) :: t6) ft 100000 216 a6 ⟨0, 0, []⟩ = some (r6, ⟨0, 0, []⟩) := by kernel_rfl
abbrev es7 : List (List T × T) := (a6, r6) :: []
abbrev t7 : PTab := (216, es7) :: t6
theorem p7 : POk Tryz.prog cx t7 := POk.next qsOk (POk.new (f := 216) p6) (by kernel_rfl) run6
/- interleave/compile.Valid, 751 operations -/
def a7 : List T := [(.agg [l0, (.tree [] false), (.tree [] false), (.tree [] false), (.tree [(.str [116])] false), (.tree [l1] false), (.tree [(.agg [(.int .i64 1), (.tree [(.agg [(.int .i64 1), (.int .i64 0), (.int .i64 0), (.int .i64 0), (.int .i64 1), (.int .i64 0)]), (.agg [(.int .i64 8), (.int .i64 0), (.int .i64 0), (.int .i64 0), (.int .i64 0), (.int .i64 0)]), l5] false)])] false)])]
def r7 : T := (.bool true)
theorem run7 : callP ((135, []) :: t7) ft 100000 135 a7 ⟨0, 0, []⟩ = some (r7, ⟨0, 0, []⟩) := by kernel_rfl
abbrev es8 : List (List T × T) := (a7, r7) :: []
abbrev t8 : PTab := (135, es8) :: t7
theorem p8 : POk Tryz.prog cx t8 := POk.next qsOk (POk.new (f := 135) p7) (by kernel_rfl) run7
end Go.Proofs.YtemkchpdcgkeiaaGreatDoor
