/- A part of the run. By program (mkrunp.py). -/
import Derived.Test.YtemkchpdcgkeiaaGreatDoorZRun2
set_option linter.unusedSimpArgs false
set_option linter.unusedVariables false
namespace Go.Proofs.YtemkchpdcgkeiaaGreatDoor
open Go Go.TI
set_option linter.unusedVariables false
set_option maxRecDepth 100000
/- interleave/interleaveref09.Complete, 90821 operations -/
def a21 : List T := [l54, (.tree [] false)]
def r21 : T := (.tuple [(.agg [l1, (.tree [] false), (.tree [] false), (.tree [] false), (.tree [(.str [116]), (.str [117])] false), l5, l60]), l59])
theorem run21 : callP ((18, []) :: t21) ft 100000 18 a21 ⟨0, 0, []⟩ = some (r21, ⟨0, 0, []⟩) := by kernel_rfl
abbrev t22 : PTab := (18, [(a21, r21)]) :: t21
theorem p22 : POk Tryz.prog cx t22 := POk.next qsOk (POk.new (f := 18) p21) (by kernel_rfl) run21
end Go.Proofs.YtemkchpdcgkeiaaGreatDoor
