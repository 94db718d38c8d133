/- A part of the run. By program (mkrunp.py). -/
import Derived.Test.YtemkchpdcgkeiaaGreatDoorZRun7
set_option linter.unusedSimpArgs false
set_option linter.unusedVariables false
namespace Go.Proofs.YtemkchpdcgkeiaaGreatDoor
open Go Go.TI
set_option linter.unusedVariables false
set_option maxRecDepth 100000
/- interleave/interleavelaw21.awake, 61921 operations -/
def a75 : List T := []
def r75 : T := (.bool true)
theorem run75 : callP ((11, []) :: t75) ft 100000 11 a75 ⟨0, 0, []⟩ = some (r75, ⟨0, 0, []⟩) := by kernel_rfl
abbrev t76 : PTab := (11, [(a75, r75)]) :: t75
theorem p76 : POk Tryz.prog cx t76 := POk.next qsOk (POk.new (f := 11) p75) (by kernel_rfl) run75
end Go.Proofs.YtemkchpdcgkeiaaGreatDoor
