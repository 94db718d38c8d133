/- A part of the run. By program (mkrunp.py). -/
import Derived.Test.YtemkchpdcgkeiaaGreatDoorZRun4
set_option linter.unusedSimpArgs false
set_option linter.unusedVariables false
namespace Go.Proofs.YtemkchpdcgkeiaaGreatDoor
open Go Go.TI
set_option linter.unusedVariables false
set_option maxRecDepth 100000
/- interleave/interleaveref20.List, 64422 operations -/
def a28 : List T := [l53]
def r28 : T := (.tree [(.agg [(.int .i64 1), (.int .i64 2), (.int .i64 8), (.int .i64 0), (.int .i64 0), (.tree [] false)])] false)
theorem run28 : callP ((20, []) :: t28) ft 100000 20 a28 ⟨0, 0, []⟩ = some (r28, ⟨0, 0, []⟩) := by kernel_rfl
abbrev t29 : PTab := (20, [(a28, r28)]) :: t28
theorem p29 : POk Tryz.prog cx t29 := POk.next qsOk (POk.new (f := 20) p28) (by kernel_rfl) run28
/- interleave/search.All, 54980 operations -/
def a29 : List T := [l53]
def r29 : T := (.tree [] false)
theorem run29 : callP ((21, []) :: t29) ft 100000 21 a29 ⟨0, 0, []⟩ = some (r29, ⟨0, 0, []⟩) := by kernel_rfl
abbrev t30 : PTab := (21, [(a29, r29)]) :: t29
theorem p30 : POk Tryz.prog cx t30 := POk.next qsOk (POk.new (f := 21) p29) (by kernel_rfl) run29
end Go.Proofs.YtemkchpdcgkeiaaGreatDoor
