/- A part of the run. By program (mkrunp.py). -/
import Derived.Test.YtemkchpdcgkeiaaGreatDoorZRun6
set_option linter.unusedSimpArgs false
set_option linter.unusedVariables false
namespace Go.Proofs.YtemkchpdcgkeiaaGreatDoor
open Go Go.TI
set_option linter.unusedVariables false
set_option maxRecDepth 100000
/- interleave/search.Find, 95220 operations -/
def a65 : List T := [l94, l102]
def r65 : T := (.tuple [(.tree [] false), (.bool false)])
theorem run65 : callP ((52, []) :: t65) ft 100000 52 a65 ⟨0, 0, []⟩ = some (r65, ⟨0, 0, []⟩) := by kernel_rfl
abbrev t66 : PTab := (52, [(a65, r65)]) :: t65
theorem p66 : POk Tryz.prog cx t66 := POk.next qsOk (POk.new (f := 52) p65) (by kernel_rfl) run65
/- interleave/interleaveref06.ValidWorld, 1567 operations -/
def a66 : List T := [(.agg [l103, (.tree [] false), (.tree [] false), (.tree [] false), (.tree [(.str [116]), (.str [117])] false), (.tree [l1, l2, l4] false)])]
def r66 : T := (.bool true)
theorem run66 : callP ((85, []) :: t66) ft 100000 85 a66 ⟨0, 0, []⟩ = some (r66, ⟨0, 0, []⟩) := by kernel_rfl
abbrev t67 : PTab := (85, [(a66, r66)]) :: t66
theorem p67 : POk Tryz.prog cx t67 := POk.next qsOk (POk.new (f := 85) p66) (by kernel_rfl) run66
/- interleave/interleaveref06.Valid, 1736 operations -/
def a67 : List T := [l104]
def r67 : T := (.bool true)
theorem run67 : callP ((42, []) :: t67) ft 100000 42 a67 ⟨0, 0, []⟩ = some (r67, ⟨0, 0, []⟩) := by kernel_rfl
abbrev t68 : PTab := (42, [(a67, r67)]) :: t67
theorem p68 : POk Tryz.prog cx t68 := POk.next qsOk (POk.new (f := 42) p67) (by kernel_rfl) run67
/- interleave/interleaveref09.Step, 799 operations -/
def a68 : List T := [l104, (.agg [(.tree [] false), (.int .i64 (.negSucc 0)), (.tree [] false), (.tree [l16, l17] false), (.tree [(.int .i64 0)] false), (.tree [] false), (.tree [l105, l105] false)]), l19]
def r68 : T := (.tuple [l106, l23, (.bool true)])
theorem run68 : callP ((87, []) :: t68) ft 100000 87 a68 ⟨0, 0, []⟩ = some (r68, ⟨0, 0, []⟩) := by kernel_rfl
abbrev t69 : PTab := (87, [(a68, r68)]) :: t68
theorem p69 : POk Tryz.prog cx t69 := POk.next qsOk (POk.new (f := 87) p68) (by kernel_rfl) run68
/- interleave/interleaveref09.Step, 1153 operations -/
def a69 : List T := [l104, l106, l19]
def r69 : T := (.tuple [l107, l26, (.bool true)])
theorem run69 : callP ((87, [(a68, r68)]) :: t68) ft 100000 87 a69 ⟨0, 0, []⟩ = some (r69, ⟨0, 0, []⟩) := by kernel_rfl
abbrev t70 : PTab := (87, [(a69, r69), (a68, r68)]) :: t68
theorem p70 : POk Tryz.prog cx t70 := POk.next qsOk p69 (by kernel_rfl) run69
/- interleave/interleaveref09.Step, 1006 operations -/
def a70 : List T := [l104, l107, l19]
def r70 : T := (.tuple [l108, (.agg [(.int .i64 0), (.int .i64 4), (.int .i64 0), (.int .i64 1), (.int .i64 1), (.tree [] false), (.tree [] false)]), (.bool true)])
theorem run70 : callP ((87, [(a69, r69), (a68, r68)]) :: t68) ft 100000 87 a70 ⟨0, 0, []⟩ = some (r70, ⟨0, 0, []⟩) := by kernel_rfl
abbrev t71 : PTab := (87, [(a70, r70), (a69, r69), (a68, r68)]) :: t68
theorem p71 : POk Tryz.prog cx t71 := POk.next qsOk p70 (by kernel_rfl) run70
/- interleave/interleaveref09.Step, 807 operations -/
def a71 : List T := [l104, l108, l19]
def r71 : T := (.tuple [l110, l44, (.bool true)])
theorem run71 : callP ((87, [(a70, r70), (a69, r69), (a68, r68)]) :: t68) ft 100000 87 a71 ⟨0, 0, []⟩ = some (r71, ⟨0, 0, []⟩) := by kernel_rfl
abbrev t72 : PTab := (87, [(a71, r71), (a70, r70), (a69, r69), (a68, r68)]) :: t68
theorem p72 : POk Tryz.prog cx t72 := POk.next qsOk p71 (by kernel_rfl) run71
/- interleave/interleaveref09.Step, 937 operations -/
def a72 : List T := [l104, l110, l45]
def r72 : T := (.tuple [l111, l47, (.bool true)])
theorem run72 : callP ((87, [(a71, r71), (a70, r70), (a69, r69), (a68, r68)]) :: t68) ft 100000 87 a72 ⟨0, 0, []⟩ = some (r72, ⟨0, 0, []⟩) := by kernel_rfl
abbrev t73 : PTab := (87, [(a72, r72), (a71, r71), (a70, r70), (a69, r69), (a68, r68)]) :: t68
theorem p73 : POk Tryz.prog cx t73 := POk.next qsOk p72 (by kernel_rfl) run72
/- interleave/interleaveref09.Step, 1006 operations -/
def a73 : List T := [l104, l111, l45]
def r73 : T := (.tuple [l112, (.agg [(.int .i64 1), (.int .i64 4), (.int .i64 0), (.int .i64 2), (.int .i64 2), (.tree [] false), (.tree [] false)]), (.bool true)])
theorem run73 : callP ((87, [(a72, r72), (a71, r71), (a70, r70), (a69, r69), (a68, r68)]) :: t68) ft 100000 87 a73 ⟨0, 0, []⟩ = some (r73, ⟨0, 0, []⟩) := by kernel_rfl
abbrev t74 : PTab := (87, [(a73, r73), (a72, r72), (a71, r71), (a70, r70), (a69, r69), (a68, r68)]) :: t68
theorem p74 : POk Tryz.prog cx t74 := POk.next qsOk p73 (by kernel_rfl) run73
/- interleave/interleaveref09.Step, 807 operations -/
def a74 : List T := [l104, l112, l45]
def r74 : T := (.tuple [(.agg [(.tree [] false), (.int .i64 (.negSucc 0)), (.tree [] false), (.tree [l41, l41] false), (.tree [(.int .i64 2)] false), (.tree [] false), (.tree [l109, (.agg [(.int .i64 2), (.tree [(.int .i64 2)] false), (.tree [(.tree [] false)] false), (.int .i64 3)])] false)]), l58, (.bool true)])
theorem run74 : callP ((87, [(a73, r73), (a72, r72), (a71, r71), (a70, r70), (a69, r69), (a68, r68)]) :: t68) ft 100000 87 a74 ⟨0, 0, []⟩ = some (r74, ⟨0, 0, []⟩) := by kernel_rfl
abbrev t75 : PTab := (87, [(a74, r74), (a73, r73), (a72, r72), (a71, r71), (a70, r70), (a69, r69), (a68, r68)]) :: t68
theorem p75 : POk Tryz.prog cx t75 := POk.next qsOk p74 (by kernel_rfl) run74
end Go.Proofs.YtemkchpdcgkeiaaGreatDoor
