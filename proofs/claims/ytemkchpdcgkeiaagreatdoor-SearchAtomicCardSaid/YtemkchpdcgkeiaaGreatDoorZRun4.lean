/- A part of the run. By program (mkrunp.py). -/
import Derived.Test.YtemkchpdcgkeiaaGreatDoorZRun3
set_option linter.unusedSimpArgs false
set_option linter.unusedVariables false
namespace Go.Proofs.YtemkchpdcgkeiaaGreatDoor
open Go Go.TI
set_option linter.unusedVariables false
set_option maxRecDepth 100000
/- interleave/search.Find, 67028 operations -/
def a42 : List T := [l49, l80]
def r42 : T := (.tuple [(.tree [l19, l19, l19, l19, l40, l40] false), (.bool true)])
theorem run42 : callP ((52, es42) :: t40) ft 100000 52 a42 ⟨0, 0, []⟩ = some (r42, ⟨0, 0, []⟩) := by kernel_rfl
abbrev es43 : List (List T × T) := (a42, r42) :: es42
abbrev t43 : PTab := (52, es43) :: t40
theorem p43 : POk Tryz.prog cx t43 := POk.next qsOk p42 (by kernel_rfl) run42
/- interleave/interleaveref18.Before, 6472 operations -/
def a43 : List T := [l75, (.int .i64 9)]
def r43 : T := (.agg [l12, (.int .i64 (.negSucc 0)), (.tree [] false), (.tree [l36, l13] false), (.tree [(.int .i64 1)] false), (.tree [] false), (.tree [(.int .i64 9), (.int .i64 0)] false)])
theorem run43 : callP ((176, []) :: t43) ft 100000 176 a43 ⟨0, 0, []⟩ = some (r43, ⟨0, 0, []⟩) := by kernel_rfl
abbrev es44 : List (List T × T) := (a43, r43) :: []
abbrev t44 : PTab := (176, es44) :: t43
theorem p44 : POk Tryz.prog cx t44 := POk.next qsOk (POk.new (f := 176) p43) (by kernel_rfl) run43
/- interleave/interleaveref18.Before, 7052 operations -/
def a44 : List T := [l75, (.int .i64 10)]
def r44 : T := (.agg [l12, (.int .i64 (.negSucc 0)), (.tree [] false), (.tree [l36, l20] false), (.tree [(.int .i64 1)] false), (.tree [] false), (.tree [(.int .i64 9), (.int .i64 1)] false)])
theorem run44 : callP ((176, es44) :: t43) ft 100000 176 a44 ⟨0, 0, []⟩ = some (r44, ⟨0, 0, []⟩) := by kernel_rfl
abbrev es45 : List (List T × T) := (a44, r44) :: es44
abbrev t45 : PTab := (176, es45) :: t43
theorem p45 : POk Tryz.prog cx t45 := POk.next qsOk p44 (by kernel_rfl) run44
/- interleave/interleaveref18.Before, 7764 operations -/
def a45 : List T := [l75, (.int .i64 11)]
def r45 : T := (.agg [l67, (.int .i64 (.negSucc 0)), (.tree [] false), (.tree [l36, l20] false), (.tree [(.int .i64 1)] false), (.tree [] false), (.tree [(.int .i64 9), (.int .i64 2)] false)])
theorem run45 : callP ((176, es45) :: t43) ft 100000 176 a45 ⟨0, 0, []⟩ = some (r45, ⟨0, 0, []⟩) := by kernel_rfl
abbrev es46 : List (List T × T) := (a45, r45) :: es45
abbrev t46 : PTab := (176, es46) :: t43
theorem p46 : POk Tryz.prog cx t46 := POk.next qsOk p45 (by kernel_rfl) run45
/- interleave/interleaveref18.Before, 8526 operations -/
def a46 : List T := [l75, (.int .i64 12)]
def r46 : T := (.agg [l67, (.int .i64 (.negSucc 0)), (.tree [] false), (.tree [l36, l20] false), (.tree [(.int .i64 5)] false), (.tree [] false), (.tree [(.int .i64 9), (.int .i64 3)] false)])
theorem run46 : callP ((176, es46) :: t43) ft 100000 176 a46 ⟨0, 0, []⟩ = some (r46, ⟨0, 0, []⟩) := by kernel_rfl
abbrev es47 : List (List T × T) := (a46, r46) :: es46
abbrev t47 : PTab := (176, es47) :: t43
theorem p47 : POk Tryz.prog cx t47 := POk.next qsOk p46 (by kernel_rfl) run46
/- interleave/interleaveref18.Before, 9259 operations -/
def a47 : List T := [l75, (.int .i64 13)]
def r47 : T := (.agg [l12, (.int .i64 (.negSucc 0)), (.tree [] false), (.tree [l36, l20] false), (.tree [(.int .i64 5)] false), (.tree [] false), (.tree [(.int .i64 9), (.int .i64 4)] false)])
theorem run47 : callP ((176, es47) :: t43) ft 100000 176 a47 ⟨0, 0, []⟩ = some (r47, ⟨0, 0, []⟩) := by kernel_rfl
abbrev es48 : List (List T × T) := (a47, r47) :: es47
abbrev t48 : PTab := (176, es48) :: t43
theorem p48 : POk Tryz.prog cx t48 := POk.next qsOk p47 (by kernel_rfl) run47
/- interleave/interleaveref18.Before, 2115 operations -/
def a48 : List T := [l75, (.int .i64 3)]
def r48 : T := l77
theorem run48 : callP ((176, es48) :: t43) ft 100000 176 a48 ⟨0, 0, []⟩ = some (r48, ⟨0, 0, []⟩) := by kernel_rfl
abbrev es49 : List (List T × T) := (a48, r48) :: es48
abbrev t49 : PTab := (176, es49) :: t43
theorem p49 : POk Tryz.prog cx t49 := POk.next qsOk p48 (by kernel_rfl) run48
/- interleave/interleaveref18.Before, 2827 operations -/
def a49 : List T := [l75, (.int .i64 4)]
def r49 : T := (.agg [l52, (.int .i64 (.negSucc 0)), (.tree [] false), l25, (.tree [(.int .i64 0)] false), (.tree [] false), (.tree [(.int .i64 4), (.int .i64 0)] false)])
theorem run49 : callP ((176, es49) :: t43) ft 100000 176 a49 ⟨0, 0, []⟩ = some (r49, ⟨0, 0, []⟩) := by kernel_rfl
abbrev es50 : List (List T × T) := (a49, r49) :: es49
abbrev t50 : PTab := (176, es50) :: t43
theorem p50 : POk Tryz.prog cx t50 := POk.next qsOk p49 (by kernel_rfl) run49
/- interleave/interleaveref18.Before, 3580 operations -/
def a50 : List T := [l75, (.int .i64 5)]
def r50 : T := (.agg [l52, (.int .i64 (.negSucc 0)), (.tree [] false), l25, (.tree [(.int .i64 0)] false), (.tree [] false), (.tree [(.int .i64 5), (.int .i64 0)] false)])
theorem run50 : callP ((176, es50) :: t43) ft 100000 176 a50 ⟨0, 0, []⟩ = some (r50, ⟨0, 0, []⟩) := by kernel_rfl
abbrev es51 : List (List T × T) := (a50, r50) :: es50
abbrev t51 : PTab := (176, es51) :: t43
theorem p51 : POk Tryz.prog cx t51 := POk.next qsOk p50 (by kernel_rfl) run50
/- interleave/interleaveref18.Before, 4378 operations -/
def a51 : List T := [l75, (.int .i64 6)]
def r51 : T := (.agg [l52, (.int .i64 (.negSucc 0)), (.tree [] false), l25, (.tree [(.int .i64 1)] false), (.tree [] false), (.tree [(.int .i64 6), (.int .i64 0)] false)])
theorem run51 : callP ((176, es51) :: t43) ft 100000 176 a51 ⟨0, 0, []⟩ = some (r51, ⟨0, 0, []⟩) := by kernel_rfl
abbrev es52 : List (List T × T) := (a51, r51) :: es51
abbrev t52 : PTab := (176, es52) :: t43
theorem p52 : POk Tryz.prog cx t52 := POk.next qsOk p51 (by kernel_rfl) run51
end Go.Proofs.YtemkchpdcgkeiaaGreatDoor
