/- A part of the run. By program (mkrunp.py). -/
import Derived.Test.YtemkchpdcgkeiaaGreatDoorZRun7
set_option linter.unusedSimpArgs false
set_option linter.unusedVariables false
namespace Go.Proofs.YtemkchpdcgkeiaaGreatDoor
open Go Go.TI
set_option linter.unusedVariables false
set_option maxRecDepth 100000
/- interleave/interleavelaw21.awake, 57824 operations -/
def a44 : List T := []
def r44 : T := (.bool true)
theorem run44 : callP ((11, []) :: t44) ft 100000 11 a44 ⟨0, 0, []⟩ = some (r44, ⟨0, 0, []⟩) := by kernel_rfl
abbrev t45 : PTab := (11, [(a44, r44)]) :: t44
theorem p45 : POk Tryz.prog cx t45 := POk.next qsOk (POk.new (f := 11) p44) (by kernel_rfl) run44
end Go.Proofs.YtemkchpdcgkeiaaGreatDoor
