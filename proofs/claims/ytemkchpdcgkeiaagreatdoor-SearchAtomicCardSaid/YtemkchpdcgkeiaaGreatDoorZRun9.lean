/- A part of the run. By program (mkrunp.py). -/
import Derived.Test.YtemkchpdcgkeiaaGreatDoorZRun8
set_option linter.unusedSimpArgs false
set_option linter.unusedVariables false
namespace Go.Proofs.YtemkchpdcgkeiaaGreatDoor
open Go Go.TI
set_option linter.unusedVariables false
set_option maxRecDepth 100000
/- interleave/search.Find, 111538 operations -/
def a69 : List T := [l75, l90]
def r69 : T := (.tuple [(.tree [] false), (.bool false)])
theorem run69 : callP ((52, es69) :: t67) ft 100000 52 a69 ⟨0, 0, []⟩ = some (r69, ⟨0, 0, []⟩) := by kernel_rfl
abbrev es70 : List (List T × T) := (a69, r69) :: es69
abbrev t70 : PTab := (52, es70) :: t67
theorem p70 : POk Tryz.prog cx t70 := POk.next qsOk p69 (by kernel_rfl) run69
/- interleave/interleaveref06.ValidWorld, 1567 operations -/
def a70 : List T := [(.agg [l0, (.tree [] false), (.tree [] false), (.tree [] false), (.tree [(.str [116]), (.str [117])] false), (.tree [l2, l3, l6] false)])]
def r70 : T := (.bool true)
theorem run70 : callP ((85, []) :: t70) ft 100000 85 a70 ⟨0, 0, []⟩ = some (r70, ⟨0, 0, []⟩) := by kernel_rfl
abbrev es71 : List (List T × T) := (a70, r70) :: []
abbrev t71 : PTab := (85, es71) :: t70
theorem p71 : POk Tryz.prog cx t71 := POk.next qsOk (POk.new (f := 85) p70) (by kernel_rfl) run70
/- interleave/interleaveref06.Valid, 1736 operations -/
def a71 : List T := [l94]
def r71 : T := (.bool true)
theorem run71 : callP ((42, []) :: t71) ft 100000 42 a71 ⟨0, 0, []⟩ = some (r71, ⟨0, 0, []⟩) := by kernel_rfl
abbrev es72 : List (List T × T) := (a71, r71) :: []
abbrev t72 : PTab := (42, es72) :: t71
theorem p72 : POk Tryz.prog cx t72 := POk.next qsOk (POk.new (f := 42) p71) (by kernel_rfl) run71
/- interleave/interleaveref09.Step, 799 operations -/
def a72 : List T := [l94, (.agg [(.tree [] false), (.int .i64 (.negSucc 0)), (.tree [] false), (.tree [l13, l14] false), (.tree [(.int .i64 0)] false), (.tree [] false), (.tree [l17, l17] false)]), l19]
def r72 : T := (.tuple [l95, l22, (.bool true)])
theorem run72 : callP ((87, []) :: t72) ft 100000 87 a72 ⟨0, 0, []⟩ = some (r72, ⟨0, 0, []⟩) := by kernel_rfl
abbrev es73 : List (List T × T) := (a72, r72) :: []
abbrev t73 : PTab := (87, es73) :: t72
theorem p73 : POk Tryz.prog cx t73 := POk.next qsOk (POk.new (f := 87) p72) (by kernel_rfl) run72
/- interleave/interleaveref09.Step, 1153 operations -/
def a73 : List T := [l94, l95, l19]
def r73 : T := (.tuple [l96, l24, (.bool true)])
theorem run73 : callP ((87, es73) :: t72) ft 100000 87 a73 ⟨0, 0, []⟩ = some (r73, ⟨0, 0, []⟩) := by kernel_rfl
abbrev es74 : List (List T × T) := (a73, r73) :: es73
abbrev t74 : PTab := (87, es74) :: t72
theorem p74 : POk Tryz.prog cx t74 := POk.next qsOk p73 (by kernel_rfl) run73
/- interleave/interleaveref09.Step, 1006 operations -/
def a74 : List T := [l94, l96, l19]
def r74 : T := (.tuple [l97, l98, (.bool true)])
theorem run74 : callP ((87, es74) :: t72) ft 100000 87 a74 ⟨0, 0, []⟩ = some (r74, ⟨0, 0, []⟩) := by kernel_rfl
abbrev es75 : List (List T × T) := (a74, r74) :: es74
abbrev t75 : PTab := (87, es75) :: t72
theorem p75 : POk Tryz.prog cx t75 := POk.next qsOk p74 (by kernel_rfl) run74
/- interleave/interleaveref09.Step, 807 operations -/
def a75 : List T := [l94, l97, l19]
def r75 : T := (.tuple [l100, l39, (.bool true)])
theorem run75 : callP ((87, es75) :: t72) ft 100000 87 a75 ⟨0, 0, []⟩ = some (r75, ⟨0, 0, []⟩) := by kernel_rfl
abbrev es76 : List (List T × T) := (a75, r75) :: es75
abbrev t76 : PTab := (87, es76) :: t72
theorem p76 : POk Tryz.prog cx t76 := POk.next qsOk p75 (by kernel_rfl) run75
/- interleave/interleaveref09.Step, 937 operations -/
def a76 : List T := [l94, l100, l40]
def r76 : T := (.tuple [l101, l42, (.bool true)])
theorem run76 : callP ((87, es76) :: t72) ft 100000 87 a76 ⟨0, 0, []⟩ = some (r76, ⟨0, 0, []⟩) := by kernel_rfl
abbrev es77 : List (List T × T) := (a76, r76) :: es76
abbrev t77 : PTab := (87, es77) :: t72
theorem p77 : POk Tryz.prog cx t77 := POk.next qsOk p76 (by kernel_rfl) run76
end Go.Proofs.YtemkchpdcgkeiaaGreatDoor
