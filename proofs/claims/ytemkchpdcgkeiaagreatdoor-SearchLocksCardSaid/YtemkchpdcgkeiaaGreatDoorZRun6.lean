/- A part of the run. By program (mkrunp.py). -/
import Derived.Test.YtemkchpdcgkeiaaGreatDoorZRun5
set_option linter.unusedSimpArgs false
set_option linter.unusedVariables false
namespace Go.Proofs.YtemkchpdcgkeiaaGreatDoor
open Go Go.TI
set_option linter.unusedVariables false
set_option maxRecDepth 100000
/- interleave/goal.List, 60011 operations -/
def a64 : List T := [l94]
def r64 : T := (.tree [l102] false)
theorem run64 : callP ((51, []) :: t64) ft 100000 51 a64 ⟨0, 0, []⟩ = some (r64, ⟨0, 0, []⟩) := by kernel_rfl
abbrev t65 : PTab := (51, [(a64, r64)]) :: t64
theorem p65 : POk Tryz.prog cx t65 := POk.next qsOk (POk.new (f := 51) p64) (by kernel_rfl) run64
end Go.Proofs.YtemkchpdcgkeiaaGreatDoor
