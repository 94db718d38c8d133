/- A part of the run. By program (mkrunp.py). -/
import Derived.Test.YtemkchpdcgkeiaaGreatDoorZRun4
set_option linter.unusedSimpArgs false
set_option linter.unusedVariables false
namespace Go.Proofs.YtemkchpdcgkeiaaGreatDoor
open Go Go.TI
set_option linter.unusedVariables false
set_option maxRecDepth 100000
/- interleave/interleaveref20.List, 128456 operations -/
def a63 : List T := [l94]
def r63 : T := (.tree [l102] false)
theorem run63 : callP ((20, []) :: t63) ft 100000 20 a63 ⟨0, 0, []⟩ = some (r63, ⟨0, 0, []⟩) := by kernel_rfl
abbrev t64 : PTab := (20, [(a63, r63)]) :: t63
theorem p64 : POk Tryz.prog cx t64 := POk.next qsOk (POk.new (f := 20) p63) (by kernel_rfl) run63
end Go.Proofs.YtemkchpdcgkeiaaGreatDoor
