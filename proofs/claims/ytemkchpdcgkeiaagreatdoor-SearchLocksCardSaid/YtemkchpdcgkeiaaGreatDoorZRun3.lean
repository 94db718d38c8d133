/- A part of the run. By program (mkrunp.py). -/
import Derived.Test.YtemkchpdcgkeiaaGreatDoorZRun2
set_option linter.unusedSimpArgs false
set_option linter.unusedVariables false
namespace Go.Proofs.YtemkchpdcgkeiaaGreatDoor
open Go Go.TI
set_option linter.unusedVariables false
set_option maxRecDepth 100000
/- interleave/search.Find, 59321 operations -/
def a48 : List T := [l60, l101]
def r48 : T := (.tuple [(.tree [l19, l19, l19, l45, l45] false), (.bool true)])
theorem run48 : callP ((52, []) :: t48) ft 100000 52 a48 ⟨0, 0, []⟩ = some (r48, ⟨0, 0, []⟩) := by kernel_rfl
abbrev t49 : PTab := (52, [(a48, r48)]) :: t48
theorem p49 : POk Tryz.prog cx t49 := POk.next qsOk (POk.new (f := 52) p48) (by kernel_rfl) run48
/- interleave/interleaveref18.Before, 6939 operations -/
def a49 : List T := [l94, (.int .i64 9)]
def r49 : T := (.agg [(.tree [l15, l15, l15] false), (.int .i64 (.negSucc 0)), (.tree [] false), (.tree [l41, l16] false), (.tree [] false), (.tree [] false), (.tree [(.int .i64 9), (.int .i64 0)] false)])
theorem run49 : callP ((176, []) :: t49) ft 100000 176 a49 ⟨0, 0, []⟩ = some (r49, ⟨0, 0, []⟩) := by kernel_rfl
abbrev t50 : PTab := (176, [(a49, r49)]) :: t49
theorem p50 : POk Tryz.prog cx t50 := POk.next qsOk (POk.new (f := 176) p49) (by kernel_rfl) run49
/- interleave/interleaveref18.Before, 7577 operations -/
def a50 : List T := [l94, (.int .i64 10)]
def r50 : T := (.agg [(.tree [l15, l15, l15] false), (.int .i64 (.negSucc 0)), (.tree [] false), (.tree [l41, l20] false), (.tree [] false), (.tree [] false), (.tree [(.int .i64 9), (.int .i64 1)] false)])
theorem run50 : callP ((176, [(a49, r49)]) :: t49) ft 100000 176 a50 ⟨0, 0, []⟩ = some (r50, ⟨0, 0, []⟩) := by kernel_rfl
abbrev t51 : PTab := (176, [(a50, r50), (a49, r49)]) :: t49
theorem p51 : POk Tryz.prog cx t51 := POk.next qsOk p50 (by kernel_rfl) run50
/- interleave/interleaveref18.Before, 8347 operations -/
def a51 : List T := [l94, (.int .i64 11)]
def r51 : T := (.agg [l81, (.int .i64 (.negSucc 0)), (.tree [] false), (.tree [l41, l20] false), (.tree [] false), (.tree [] false), (.tree [(.int .i64 9), (.int .i64 2)] false)])
theorem run51 : callP ((176, [(a50, r50), (a49, r49)]) :: t49) ft 100000 176 a51 ⟨0, 0, []⟩ = some (r51, ⟨0, 0, []⟩) := by kernel_rfl
abbrev t52 : PTab := (176, [(a51, r51), (a50, r50), (a49, r49)]) :: t49
theorem p52 : POk Tryz.prog cx t52 := POk.next qsOk p51 (by kernel_rfl) run51
/- interleave/interleaveref18.Before, 9117 operations -/
def a52 : List T := [l94, (.int .i64 12)]
def r52 : T := (.agg [l83, (.int .i64 (.negSucc 0)), (.tree [] false), (.tree [l41, l20] false), (.tree [] false), (.tree [] false), (.tree [(.int .i64 9), (.int .i64 3)] false)])
theorem run52 : callP ((176, [(a51, r51), (a50, r50), (a49, r49)]) :: t49) ft 100000 176 a52 ⟨0, 0, []⟩ = some (r52, ⟨0, 0, []⟩) := by kernel_rfl
abbrev t53 : PTab := (176, [(a52, r52), (a51, r51), (a50, r50), (a49, r49)]) :: t49
theorem p53 : POk Tryz.prog cx t53 := POk.next qsOk p52 (by kernel_rfl) run52
/- interleave/interleaveref18.Before, 9887 operations -/
def a53 : List T := [l94, (.int .i64 13)]
def r53 : T := (.agg [l86, (.int .i64 (.negSucc 0)), (.tree [] false), (.tree [l41, l20] false), (.tree [] false), (.tree [] false), (.tree [(.int .i64 9), (.int .i64 4)] false)])
theorem run53 : callP ((176, [(a52, r52), (a51, r51), (a50, r50), (a49, r49)]) :: t49) ft 100000 176 a53 ⟨0, 0, []⟩ = some (r53, ⟨0, 0, []⟩) := by kernel_rfl
abbrev t54 : PTab := (176, [(a53, r53), (a52, r52), (a51, r51), (a50, r50), (a49, r49)]) :: t49
theorem p54 : POk Tryz.prog cx t54 := POk.next qsOk p53 (by kernel_rfl) run53
/- interleave/interleaveref18.Before, 10678 operations -/
def a54 : List T := [l94, (.int .i64 14)]
def r54 : T := (.agg [l83, (.int .i64 (.negSucc 0)), (.tree [] false), (.tree [l41, l20] false), (.tree [] false), (.tree [] false), (.tree [(.int .i64 9), (.int .i64 5)] false)])
theorem run54 : callP ((176, [(a53, r53), (a52, r52), (a51, r51), (a50, r50), (a49, r49)]) :: t49) ft 100000 176 a54 ⟨0, 0, []⟩ = some (r54, ⟨0, 0, []⟩) := by kernel_rfl
abbrev t55 : PTab := (176, [(a54, r54), (a53, r53), (a52, r52), (a51, r51), (a50, r50), (a49, r49)]) :: t49
theorem p55 : POk Tryz.prog cx t55 := POk.next qsOk p54 (by kernel_rfl) run54
end Go.Proofs.YtemkchpdcgkeiaaGreatDoor
