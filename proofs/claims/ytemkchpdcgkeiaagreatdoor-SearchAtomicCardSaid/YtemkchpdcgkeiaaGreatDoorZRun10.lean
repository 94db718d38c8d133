/- A part of the run. By program (mkrunp.py). -/
import Derived.Test.YtemkchpdcgkeiaaGreatDoorZRun9
set_option linter.unusedSimpArgs false
set_option linter.unusedVariables false
namespace Go.Proofs.YtemkchpdcgkeiaaGreatDoor
open Go Go.TI
set_option linter.unusedVariables false
set_option maxRecDepth 100000
/- interleave/interleaveref09.Step, 1006 operations -/
def a77 : List T := [l94, l101, l40]
def r77 : T := (.tuple [l102, l103, (.bool true)])
theorem run77 : callP ((87, es77) :: t72) ft 100000 87 a77 ⟨0, 0, []⟩ = some (r77, ⟨0, 0, []⟩) := by kernel_rfl
abbrev es78 : List (List T × T) := (a77, r77) :: es77
abbrev t78 : PTab := (87, es78) :: t72
theorem p78 : POk Tryz.prog cx t78 := POk.next qsOk p77 (by kernel_rfl) run77
/- interleave/interleaveref09.Step, 807 operations -/
def a78 : List T := [l94, l102, l40]
def r78 : T := (.tuple [(.agg [(.tree [] false), (.int .i64 (.negSucc 0)), (.tree [] false), (.tree [l36, l36] false), (.tree [(.int .i64 2)] false), (.tree [] false), (.tree [l99, (.agg [(.int .i64 2), (.tree [(.int .i64 2)] false), (.tree [(.tree [] false)] false), (.int .i64 3)])] false)]), l46, (.bool true)])
theorem run78 : callP ((87, es78) :: t72) ft 100000 87 a78 ⟨0, 0, []⟩ = some (r78, ⟨0, 0, []⟩) := by kernel_rfl
abbrev es79 : List (List T × T) := (a78, r78) :: es78
abbrev t79 : PTab := (87, es79) :: t72
theorem p79 : POk Tryz.prog cx t79 := POk.next qsOk p78 (by kernel_rfl) run78
/- interleave/interleavelaw21.text, 32841 operations -/
def a79 : List T := [(.str [118, 97, 114, 32, 120, 59, 32, 116, 104, 114, 101, 97, 100, 32, 116, 40, 41, 32, 123, 32, 115, 112, 97, 119, 110, 32, 117, 59, 32, 120, 32, 61, 32, 49, 59, 32, 125, 32, 116, 104, 114, 101, 97, 100, 32, 117, 40, 41, 32, 123, 32, 120, 32, 61, 32, 50, 59, 32, 125])]
def r79 : T := (.agg [l0, (.tree [] false), (.tree [] false), (.tree [] false), (.tree [(.str [116]), (.str [117])] false), (.tree [l2, l3, l6] false), (.int .i64 0), (.tree [] false), (.int .i64 (.negSucc 0)), (.tree [] false), (.tree [l13, l14] false), (.tree [(.int .i64 0)] false), (.tree [] false), l47, (.tree [l22, l24, l98, l39, l42, l103, l46] false)])
theorem run79 : callP ((9, []) :: t79) ft 100000 9 a79 ⟨0, 0, []⟩ = some (r79, ⟨0, 0, []⟩) := by kernel_rfl
abbrev es80 : List (List T × T) := (a79, r79) :: []
abbrev t80 : PTab := (9, es80) :: t79
theorem p80 : POk Tryz.prog cx t80 := POk.next qsOk (POk.new (f := 9) p79) (by kernel_rfl) run79
end Go.Proofs.YtemkchpdcgkeiaaGreatDoor
