/- A part of the run. By program (mkrunp.py). -/
import Derived.Test.YtemkchpdcgkeiaaGreatDoorZRun0
set_option linter.unusedSimpArgs false
set_option linter.unusedVariables false
namespace Go.Proofs.YtemkchpdcgkeiaaGreatDoor
open Go Go.TI
set_option linter.unusedVariables false
set_option maxRecDepth 100000
/- interleave/explore.Deadlocks, 136332 operations -/
def a4 : List T := [l6, (.int .i64 12)]
def r4 : T := (.tree [] false)
theorem run4 : callP ((16, []) :: t4) ft 100000 16 a4 ⟨0, 0, []⟩ = some (r4, ⟨0, 0, []⟩) := by kernel_rfl
abbrev t5 : PTab := (16, [(a4, r4)]) :: t4
theorem p5 : POk Tryz.prog cx t5 := POk.next qsOk (POk.new (f := 16) p4) (by kernel_rfl) run4
end Go.Proofs.YtemkchpdcgkeiaaGreatDoor
