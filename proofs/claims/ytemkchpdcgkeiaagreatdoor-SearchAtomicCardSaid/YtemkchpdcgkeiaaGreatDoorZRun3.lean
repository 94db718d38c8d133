/- A part of the run. By program (mkrunp.py). -/
import Derived.Test.YtemkchpdcgkeiaaGreatDoorZRun2
set_option linter.unusedSimpArgs false
set_option linter.unusedVariables false
namespace Go.Proofs.YtemkchpdcgkeiaaGreatDoor
open Go Go.TI
set_option linter.unusedVariables false
set_option maxRecDepth 100000
/- interleave/search.Find, 33506 operations -/
def a40 : List T := [l49, l78]
def r40 : T := (.tuple [(.tree [l19, l19, l19, l40] false), (.bool true)])
theorem run40 : callP ((52, []) :: t40) ft 100000 52 a40 ⟨0, 0, []⟩ = some (r40, ⟨0, 0, []⟩) := by kernel_rfl
abbrev es41 : List (List T × T) := (a40, r40) :: []
abbrev t41 : PTab := (52, es41) :: t40
theorem p41 : POk Tryz.prog cx t41 := POk.next qsOk (POk.new (f := 52) p40) (by kernel_rfl) run40
/- interleave/search.Find, 53054 operations -/
def a41 : List T := [l49, l79]
def r41 : T := (.tuple [(.tree [l19, l19, l19, l19, l40] false), (.bool true)])
theorem run41 : callP ((52, es41) :: t40) ft 100000 52 a41 ⟨0, 0, []⟩ = some (r41, ⟨0, 0, []⟩) := by kernel_rfl
abbrev es42 : List (List T × T) := (a41, r41) :: es41
abbrev t42 : PTab := (52, es42) :: t40
theorem p42 : POk Tryz.prog cx t42 := POk.next qsOk p41 (by kernel_rfl) run41
end Go.Proofs.YtemkchpdcgkeiaaGreatDoor
