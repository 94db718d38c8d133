/- A part of the run. By program (mkrunp.py). -/
import Derived.Test.YtemkchpdcgkeiaaGreatDoorZRun7
set_option linter.unusedSimpArgs false
set_option linter.unusedVariables false
namespace Go.Proofs.YtemkchpdcgkeiaaGreatDoor
open Go Go.TI
set_option linter.unusedVariables false
set_option maxRecDepth 100000
/- interleave/search.Find, 118370 operations -/
def a68 : List T := [l75, l89]
def r68 : T := (.tuple [(.tree [] false), (.bool false)])
theorem run68 : callP ((52, es68) :: t67) ft 100000 52 a68 ⟨0, 0, []⟩ = some (r68, ⟨0, 0, []⟩) := by kernel_rfl
abbrev es69 : List (List T × T) := (a68, r68) :: es68
abbrev t69 : PTab := (52, es69) :: t67
theorem p69 : POk Tryz.prog cx t69 := POk.next qsOk p68 (by kernel_rfl) run68
end Go.Proofs.YtemkchpdcgkeiaaGreatDoor
