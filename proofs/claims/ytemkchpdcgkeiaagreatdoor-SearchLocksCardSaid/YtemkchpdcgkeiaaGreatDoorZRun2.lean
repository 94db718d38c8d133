/- A part of the run. By program (mkrunp.py). -/
import Derived.Test.YtemkchpdcgkeiaaGreatDoorZRun1
set_option linter.unusedSimpArgs false
set_option linter.unusedVariables false
namespace Go.Proofs.YtemkchpdcgkeiaaGreatDoor
open Go Go.TI
set_option linter.unusedVariables false
set_option maxRecDepth 100000
/- interleave/interleaveref18.Before, 4486 operations -/
def a46 : List T := [l60, (.int .i64 6)]
def r46 : T := (.agg [(.tree [l15, l15] false), (.int .i64 (.negSucc 0)), (.tree [] false), (.tree [l20, l16] false), (.tree [] false), (.tree [] false), l100])
theorem run46 : callP ((176, [(a45, r45), (a44, r44), (a43, r43), (a42, r42), (a41, r41), (a40, r40), (a39, r39), (a38, r38), (a37, r37), (a36, r36)]) :: t36) ft 100000 176 a46 ⟨0, 0, []⟩ = some (r46, ⟨0, 0, []⟩) := by kernel_rfl
abbrev t47 : PTab := (176, [(a46, r46), (a45, r45), (a44, r44), (a43, r43), (a42, r42), (a41, r41), (a40, r40), (a39, r39), (a38, r38), (a37, r37), (a36, r36)]) :: t36
theorem p47 : POk Tryz.prog cx t47 := POk.next qsOk p46 (by kernel_rfl) run46
/- interleave/interleaveref20.List, 76588 operations -/
def a47 : List T := [l60]
def r47 : T := (.tree [l101] false)
theorem run47 : callP ((20, []) :: t47) ft 100000 20 a47 ⟨0, 0, []⟩ = some (r47, ⟨0, 0, []⟩) := by kernel_rfl
abbrev t48 : PTab := (20, [(a47, r47)]) :: t47
theorem p48 : POk Tryz.prog cx t48 := POk.next qsOk (POk.new (f := 20) p47) (by kernel_rfl) run47
end Go.Proofs.YtemkchpdcgkeiaaGreatDoor
