/- A part of the run. By program (mkrunp.py). -/
import Derived.Test.YtemkchpdcgkeiaaGreatDoorZRun1
set_option linter.unusedSimpArgs false
set_option linter.unusedVariables false
namespace Go.Proofs.YtemkchpdcgkeiaaGreatDoor
open Go Go.TI
set_option linter.unusedVariables false
set_option maxRecDepth 100000
/- interleave/interleaveref20.List, 52290 operations -/
def a34 : List T := [l49]
def r34 : T := (.tree [l78, l79, l80] false)
theorem run34 : callP ((20, []) :: t34) ft 100000 20 a34 ⟨0, 0, []⟩ = some (r34, ⟨0, 0, []⟩) := by kernel_rfl
abbrev es35 : List (List T × T) := (a34, r34) :: []
abbrev t35 : PTab := (20, es35) :: t34
theorem p35 : POk Tryz.prog cx t35 := POk.next qsOk (POk.new (f := 20) p34) (by kernel_rfl) run34
/- (interleave/goal.analysis).block, 48 operations -/
def a35 : List T := [l87, (.int .i64 3), (.int .i64 4)]
def r35 : T := (.bool true)
theorem run35 : callP ((101, []) :: t35) ft 100000 101 a35 ⟨0, 0, []⟩ = some (r35, ⟨0, 0, []⟩) := by kernel_rfl
abbrev es36 : List (List T × T) := (a35, r35) :: []
abbrev t36 : PTab := (101, es36) :: t35
theorem p36 : POk Tryz.prog cx t36 := POk.next qsOk (POk.new (f := 101) p35) (by kernel_rfl) run35
/- (interleave/goal.analysis).block, 64 operations -/
def a36 : List T := [l87, (.int .i64 3), (.int .i64 5)]
def r36 : T := (.bool true)
theorem run36 : callP ((101, es36) :: t35) ft 100000 101 a36 ⟨0, 0, []⟩ = some (r36, ⟨0, 0, []⟩) := by kernel_rfl
abbrev es37 : List (List T × T) := (a36, r36) :: es36
abbrev t37 : PTab := (101, es37) :: t35
theorem p37 : POk Tryz.prog cx t37 := POk.next qsOk p36 (by kernel_rfl) run36
/- (interleave/goal.analysis).block, 48 operations -/
def a37 : List T := [l87, (.int .i64 4), (.int .i64 5)]
def r37 : T := (.bool true)
theorem run37 : callP ((101, es37) :: t35) ft 100000 101 a37 ⟨0, 0, []⟩ = some (r37, ⟨0, 0, []⟩) := by kernel_rfl
abbrev es38 : List (List T × T) := (a37, r37) :: es37
abbrev t38 : PTab := (101, es38) :: t35
theorem p38 : POk Tryz.prog cx t38 := POk.next qsOk p37 (by kernel_rfl) run37
/- (interleave/goal.analysis).block, 48 operations -/
def a38 : List T := [l87, (.int .i64 5), (.int .i64 6)]
def r38 : T := (.bool true)
theorem run38 : callP ((101, es38) :: t35) ft 100000 101 a38 ⟨0, 0, []⟩ = some (r38, ⟨0, 0, []⟩) := by kernel_rfl
abbrev es39 : List (List T × T) := (a38, r38) :: es38
abbrev t39 : PTab := (101, es39) :: t35
theorem p39 : POk Tryz.prog cx t39 := POk.next qsOk p38 (by kernel_rfl) run38
/- interleave/goal.List, 66695 operations -/
def a39 : List T := [l49]
def r39 : T := (.tree [l78, l79, l80] false)
theorem run39 : callP ((51, []) :: t39) ft 100000 51 a39 ⟨0, 0, []⟩ = some (r39, ⟨0, 0, []⟩) := by kernel_rfl
abbrev es40 : List (List T × T) := (a39, r39) :: []
abbrev t40 : PTab := (51, es40) :: t39
theorem p40 : POk Tryz.prog cx t40 := POk.next qsOk (POk.new (f := 51) p39) (by kernel_rfl) run39
end Go.Proofs.YtemkchpdcgkeiaaGreatDoor
