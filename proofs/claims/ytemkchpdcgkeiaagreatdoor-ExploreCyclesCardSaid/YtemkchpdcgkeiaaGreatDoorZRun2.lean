/- A part of the run. By program (mkrunp.py). -/
import Derived.Test.YtemkchpdcgkeiaaGreatDoorZRun1
set_option linter.unusedSimpArgs false
set_option linter.unusedVariables false
namespace Go.Proofs.YtemkchpdcgkeiaaGreatDoor
open Go Go.TI
set_option linter.unusedVariables false
set_option maxRecDepth 100000
/- interleave/compile.ValidWorld, 648 operations -/
def a5 : List T := [(.agg [l7, (.tree [] false), (.tree [] false), (.tree [] false), (.tree [(.str [116])] false), (.tree [l1] false)])]
def r5 : T := (.bool true)
theorem run5 : callP ((216, []) :: t5) ft 100000 216 a5 ⟨0, 0, []⟩ = some (r5, ⟨0, 0, []⟩) := by kernel_rfl
abbrev t6 : PTab := (216, [(a5, r5)]) :: t5
theorem p6 : POk Tryz.prog cx t6 := POk.next qsOk (POk.new (f := 216) p5) (by kernel_rfl) run5
/- interleave/compile.Valid, 751 operations -/
def a6 : List T := [(.agg [l7, (.tree [] false), (.tree [] false), (.tree [] false), (.tree [(.str [116])] false), (.tree [l1] false), (.tree [(.agg [(.int .i64 1), (.tree [(.agg [(.int .i64 1), (.int .i64 0), (.int .i64 0), (.int .i64 0), (.int .i64 1), (.int .i64 0)]), (.agg [(.int .i64 8), (.int .i64 0), (.int .i64 0), (.int .i64 0), (.int .i64 0), (.int .i64 0)]), l3] false)])] false)])]
def r6 : T := (.bool true)
theorem run6 : callP ((135, []) :: t6) ft 100000 135 a6 ⟨0, 0, []⟩ = some (r6, ⟨0, 0, []⟩) := by kernel_rfl
abbrev t7 : PTab := (135, [(a6, r6)]) :: t6
theorem p7 : POk Tryz.prog cx t7 := POk.next qsOk (POk.new (f := 135) p6) (by kernel_rfl) run6
end Go.Proofs.YtemkchpdcgkeiaaGreatDoor
