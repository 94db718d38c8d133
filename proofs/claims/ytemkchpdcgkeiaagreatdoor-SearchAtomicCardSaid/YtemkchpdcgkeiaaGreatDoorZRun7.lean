/- A part of the run. By program (mkrunp.py). -/
import Derived.Test.YtemkchpdcgkeiaaGreatDoorZRun6
set_option linter.unusedSimpArgs false
set_option linter.unusedVariables false
namespace Go.Proofs.YtemkchpdcgkeiaaGreatDoor
open Go Go.TI
set_option linter.unusedVariables false
set_option maxRecDepth 100000
/- interleave/search.Find, 95506 operations -/
def a67 : List T := [l75, l88]
def r67 : T := (.tuple [(.tree [] false), (.bool false)])
theorem run67 : callP ((52, []) :: t67) ft 100000 52 a67 ⟨0, 0, []⟩ = some (r67, ⟨0, 0, []⟩) := by kernel_rfl
abbrev es68 : List (List T × T) := (a67, r67) :: []
abbrev t68 : PTab := (52, es68) :: t67
theorem p68 : POk Tryz.prog cx t68 := POk.next qsOk (POk.new (f := 52) p67) (by kernel_rfl) run67
end Go.Proofs.YtemkchpdcgkeiaaGreatDoor
