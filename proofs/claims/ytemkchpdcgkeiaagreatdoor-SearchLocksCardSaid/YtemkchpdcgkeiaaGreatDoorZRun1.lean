/- A part of the run. By program (mkrunp.py). -/
import Derived.Test.YtemkchpdcgkeiaaGreatDoorZRun0
set_option linter.unusedSimpArgs false
set_option linter.unusedVariables false
namespace Go.Proofs.YtemkchpdcgkeiaaGreatDoor
open Go Go.TI
set_option linter.unusedVariables false
set_option maxRecDepth 100000
/- interleave/interleavelaw21.text, 67549 operations -/
def a35 : List T := [(.str [109, 117, 116, 101, 120, 32, 103, 59, 32, 109, 117, 116, 101, 120, 32, 109, 59, 32, 109, 117, 116, 101, 120, 32, 110, 59, 32, 116, 104, 114, 101, 97, 100, 32, 116, 40, 41, 32, 123, 32, 115, 112, 97, 119, 110, 32, 117, 59, 32, 108, 111, 99, 107, 32, 103, 32, 123, 32, 108, 111, 99, 107, 32, 109, 32, 123, 32, 108, 111, 99, 107, 32, 110, 32, 123, 32, 125, 32, 125, 32, 125, 32, 125, 32, 116, 104, 114, 101, 97, 100, 32, 117, 40, 41, 32, 123, 32, 108, 111, 99, 107, 32, 103, 32, 123, 32, 108, 111, 99, 107, 32, 110, 32, 123, 32, 108, 111, 99, 107, 32, 109, 32, 123, 32, 125, 32, 125, 32, 125, 32, 125])]
def r35 : T := l94
theorem run35 : callP ((9, []) :: t35) ft 100000 9 a35 ⟨0, 0, []⟩ = some (r35, ⟨0, 0, []⟩) := by kernel_rfl
abbrev t36 : PTab := (9, [(a35, r35)]) :: t35
theorem p36 : POk Tryz.prog cx t36 := POk.next qsOk (POk.new (f := 9) p35) (by kernel_rfl) run35
/- interleave/interleaveref18.Before, 5175 operations -/
def a36 : List T := [l60, (.int .i64 7)]
def r36 : T := (.agg [(.tree [l15, l15] false), (.int .i64 (.negSucc 0)), (.tree [] false), (.tree [l41, l16] false), (.tree [] false), (.tree [] false), l95])
theorem run36 : callP ((176, []) :: t36) ft 100000 176 a36 ⟨0, 0, []⟩ = some (r36, ⟨0, 0, []⟩) := by kernel_rfl
abbrev t37 : PTab := (176, [(a36, r36)]) :: t36
theorem p37 : POk Tryz.prog cx t37 := POk.next qsOk (POk.new (f := 176) p36) (by kernel_rfl) run36
/- interleave/interleaveref18.Before, 5784 operations -/
def a37 : List T := [l60, (.int .i64 8)]
def r37 : T := (.agg [(.tree [l15, l15] false), (.int .i64 (.negSucc 0)), (.tree [] false), (.tree [l41, l20] false), (.tree [] false), (.tree [] false), (.tree [(.int .i64 7), (.int .i64 1)] false)])
theorem run37 : callP ((176, [(a36, r36)]) :: t36) ft 100000 176 a37 ⟨0, 0, []⟩ = some (r37, ⟨0, 0, []⟩) := by kernel_rfl
abbrev t38 : PTab := (176, [(a37, r37), (a36, r36)]) :: t36
theorem p38 : POk Tryz.prog cx t38 := POk.next qsOk p37 (by kernel_rfl) run37
/- interleave/interleaveref18.Before, 6525 operations -/
def a38 : List T := [l60, (.int .i64 9)]
def r38 : T := (.agg [l48, (.int .i64 (.negSucc 0)), (.tree [] false), (.tree [l41, l20] false), (.tree [] false), (.tree [] false), (.tree [(.int .i64 7), (.int .i64 2)] false)])
theorem run38 : callP ((176, [(a37, r37), (a36, r36)]) :: t36) ft 100000 176 a38 ⟨0, 0, []⟩ = some (r38, ⟨0, 0, []⟩) := by kernel_rfl
abbrev t39 : PTab := (176, [(a38, r38), (a37, r37), (a36, r36)]) :: t36
theorem p39 : POk Tryz.prog cx t39 := POk.next qsOk p38 (by kernel_rfl) run38
/- interleave/interleaveref18.Before, 7266 operations -/
def a39 : List T := [l60, (.int .i64 10)]
def r39 : T := (.agg [l51, (.int .i64 (.negSucc 0)), (.tree [] false), (.tree [l41, l20] false), (.tree [] false), (.tree [] false), (.tree [(.int .i64 7), (.int .i64 3)] false)])
theorem run39 : callP ((176, [(a38, r38), (a37, r37), (a36, r36)]) :: t36) ft 100000 176 a39 ⟨0, 0, []⟩ = some (r39, ⟨0, 0, []⟩) := by kernel_rfl
abbrev t40 : PTab := (176, [(a39, r39), (a38, r38), (a37, r37), (a36, r36)]) :: t36
theorem p40 : POk Tryz.prog cx t40 := POk.next qsOk p39 (by kernel_rfl) run39
/- interleave/interleaveref18.Before, 8028 operations -/
def a40 : List T := [l60, (.int .i64 11)]
def r40 : T := (.agg [l48, (.int .i64 (.negSucc 0)), (.tree [] false), (.tree [l41, l20] false), (.tree [] false), (.tree [] false), (.tree [(.int .i64 7), (.int .i64 4)] false)])
theorem run40 : callP ((176, [(a39, r39), (a38, r38), (a37, r37), (a36, r36)]) :: t36) ft 100000 176 a40 ⟨0, 0, []⟩ = some (r40, ⟨0, 0, []⟩) := by kernel_rfl
abbrev t41 : PTab := (176, [(a40, r40), (a39, r39), (a38, r38), (a37, r37), (a36, r36)]) :: t36
theorem p41 : POk Tryz.prog cx t41 := POk.next qsOk p40 (by kernel_rfl) run40
/- interleave/interleaveref18.Before, 8790 operations -/
def a41 : List T := [l60, (.int .i64 12)]
def r41 : T := (.agg [(.tree [l15, l15] false), (.int .i64 (.negSucc 0)), (.tree [] false), (.tree [l41, l20] false), (.tree [] false), (.tree [] false), (.tree [(.int .i64 7), (.int .i64 5)] false)])
theorem run41 : callP ((176, [(a40, r40), (a39, r39), (a38, r38), (a37, r37), (a36, r36)]) :: t36) ft 100000 176 a41 ⟨0, 0, []⟩ = some (r41, ⟨0, 0, []⟩) := by kernel_rfl
abbrev t42 : PTab := (176, [(a41, r41), (a40, r40), (a39, r39), (a38, r38), (a37, r37), (a36, r36)]) :: t36
theorem p42 : POk Tryz.prog cx t42 := POk.next qsOk p41 (by kernel_rfl) run41
/- interleave/interleaveref18.Before, 1480 operations -/
def a42 : List T := [l60, (.int .i64 2)]
def r42 : T := (.agg [(.tree [l15, l15] false), (.int .i64 (.negSucc 0)), (.tree [] false), (.tree [l20, l16] false), (.tree [] false), (.tree [] false), l96])
theorem run42 : callP ((176, [(a41, r41), (a40, r40), (a39, r39), (a38, r38), (a37, r37), (a36, r36)]) :: t36) ft 100000 176 a42 ⟨0, 0, []⟩ = some (r42, ⟨0, 0, []⟩) := by kernel_rfl
abbrev t43 : PTab := (176, [(a42, r42), (a41, r41), (a40, r40), (a39, r39), (a38, r38), (a37, r37), (a36, r36)]) :: t36
theorem p43 : POk Tryz.prog cx t43 := POk.next qsOk p42 (by kernel_rfl) run42
/- interleave/interleaveref18.Before, 2221 operations -/
def a43 : List T := [l60, (.int .i64 3)]
def r43 : T := (.agg [l27, (.int .i64 (.negSucc 0)), (.tree [] false), (.tree [l20, l16] false), (.tree [] false), (.tree [] false), l97])
theorem run43 : callP ((176, [(a42, r42), (a41, r41), (a40, r40), (a39, r39), (a38, r38), (a37, r37), (a36, r36)]) :: t36) ft 100000 176 a43 ⟨0, 0, []⟩ = some (r43, ⟨0, 0, []⟩) := by kernel_rfl
abbrev t44 : PTab := (176, [(a43, r43), (a42, r42), (a41, r41), (a40, r40), (a39, r39), (a38, r38), (a37, r37), (a36, r36)]) :: t36
theorem p44 : POk Tryz.prog cx t44 := POk.next qsOk p43 (by kernel_rfl) run43
/- interleave/interleaveref18.Before, 2962 operations -/
def a44 : List T := [l60, (.int .i64 4)]
def r44 : T := (.agg [l31, (.int .i64 (.negSucc 0)), (.tree [] false), (.tree [l20, l16] false), (.tree [] false), (.tree [] false), l98])
theorem run44 : callP ((176, [(a43, r43), (a42, r42), (a41, r41), (a40, r40), (a39, r39), (a38, r38), (a37, r37), (a36, r36)]) :: t36) ft 100000 176 a44 ⟨0, 0, []⟩ = some (r44, ⟨0, 0, []⟩) := by kernel_rfl
abbrev t45 : PTab := (176, [(a44, r44), (a43, r43), (a42, r42), (a41, r41), (a40, r40), (a39, r39), (a38, r38), (a37, r37), (a36, r36)]) :: t36
theorem p45 : POk Tryz.prog cx t45 := POk.next qsOk p44 (by kernel_rfl) run44
/- interleave/interleaveref18.Before, 3724 operations -/
def a45 : List T := [l60, (.int .i64 5)]
def r45 : T := (.agg [l27, (.int .i64 (.negSucc 0)), (.tree [] false), (.tree [l20, l16] false), (.tree [] false), (.tree [] false), l99])
theorem run45 : callP ((176, [(a44, r44), (a43, r43), (a42, r42), (a41, r41), (a40, r40), (a39, r39), (a38, r38), (a37, r37), (a36, r36)]) :: t36) ft 100000 176 a45 ⟨0, 0, []⟩ = some (r45, ⟨0, 0, []⟩) := by kernel_rfl
abbrev t46 : PTab := (176, [(a45, r45), (a44, r44), (a43, r43), (a42, r42), (a41, r41), (a40, r40), (a39, r39), (a38, r38), (a37, r37), (a36, r36)]) :: t36
theorem p46 : POk Tryz.prog cx t46 := POk.next qsOk p45 (by kernel_rfl) run45
end Go.Proofs.YtemkchpdcgkeiaaGreatDoor
