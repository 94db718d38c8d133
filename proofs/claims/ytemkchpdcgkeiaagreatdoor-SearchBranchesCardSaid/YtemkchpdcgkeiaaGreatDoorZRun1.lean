/- A part of the run. By program (mkrunp.py). -/
import Derived.Test.YtemkchpdcgkeiaaGreatDoorZRun0
set_option linter.unusedSimpArgs false
set_option linter.unusedVariables false
namespace Go.Proofs.YtemkchpdcgkeiaaGreatDoor
open Go Go.TI
set_option linter.unusedVariables false
set_option maxRecDepth 100000
/- interleave/interleaveref09.Complete, 99652 operations -/
def a10 : List T := [l14, (.tree [] false)]
def r10 : T := (.tuple [(.agg [l1, (.tree [] false), (.tree [] false), (.tree [] false), (.tree [(.str [116]), (.str [117])] false), l5, l52]), l50])
theorem run10 : callP ((18, []) :: t10) ft 100000 18 a10 ⟨0, 0, []⟩ = some (r10, ⟨0, 0, []⟩) := by kernel_rfl
abbrev t11 : PTab := (18, [(a10, r10)]) :: t10
theorem p11 : POk Tryz.prog cx t11 := POk.next qsOk (POk.new (f := 18) p10) (by kernel_rfl) run10
end Go.Proofs.YtemkchpdcgkeiaaGreatDoor
