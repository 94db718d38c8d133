/- A part of the run. By program (mkrunp.py). -/
import Derived.Test.YtemkchpdcgkeiaaGreatDoorZRun5
set_option linter.unusedSimpArgs false
set_option linter.unusedVariables false
namespace Go.Proofs.YtemkchpdcgkeiaaGreatDoor
open Go Go.TI
set_option linter.unusedVariables false
set_option maxRecDepth 100000
/- interleave/goal.List, 277912 operations -/
def a66 : List T := [l75]
def r66 : T := (.tree [l88, l89, l90] false)
theorem run66 : callP ((51, []) :: t66) ft 100000 51 a66 ⟨0, 0, []⟩ = some (r66, ⟨0, 0, []⟩) := by kernel_rfl
abbrev es67 : List (List T × T) := (a66, r66) :: []
abbrev t67 : PTab := (51, es67) :: t66
theorem p67 : POk Tryz.prog cx t67 := POk.next qsOk (POk.new (f := 51) p66) (by kernel_rfl) run66
end Go.Proofs.YtemkchpdcgkeiaaGreatDoor
