/- A part of the run. By program (mkrunp.py). -/
import Derived.Test.YtemkchpdcgkeiaaGreatDoorZRun6
set_option linter.unusedSimpArgs false
set_option linter.unusedVariables false
namespace Go.Proofs.YtemkchpdcgkeiaaGreatDoor
open Go Go.TI
set_option linter.unusedVariables false
set_option maxRecDepth 100000
/- interleave/interleaveref09.Step, 4096 operations -/
def a36 : List T := [l67, (.agg [(.tree [] false), (.int .i64 (.negSucc 0)), (.tree [] false), (.tree [l15, l16] false), (.tree [(.int .i64 0)] false), (.tree [] false), (.tree [l18, l18] false)]), l22]
def r36 : T := (.tuple [l68, l26, (.bool true)])
theorem run36 : callP ((87, []) :: t36) ft 100000 87 a36 ⟨0, 0, []⟩ = some (r36, ⟨0, 0, []⟩) := by kernel_rfl
abbrev t37 : PTab := (87, [(a36, r36)]) :: t36
theorem p37 : POk Tryz.prog cx t37 := POk.next qsOk (POk.new (f := 87) p36) (by kernel_rfl) run36
/- interleave/interleaveref09.Step, 4450 operations -/
def a37 : List T := [l67, l68, l22]
def r37 : T := (.tuple [l69, l29, (.bool true)])
theorem run37 : callP ((87, [(a36, r36)]) :: t36) ft 100000 87 a37 ⟨0, 0, []⟩ = some (r37, ⟨0, 0, []⟩) := by kernel_rfl
abbrev t38 : PTab := (87, [(a37, r37), (a36, r36)]) :: t36
theorem p38 : POk Tryz.prog cx t38 := POk.next qsOk p37 (by kernel_rfl) run37
/- interleave/interleaveref09.Step, 4303 operations -/
def a38 : List T := [l67, l69, l22]
def r38 : T := (.tuple [l70, l31, (.bool true)])
theorem run38 : callP ((87, [(a37, r37), (a36, r36)]) :: t36) ft 100000 87 a38 ⟨0, 0, []⟩ = some (r38, ⟨0, 0, []⟩) := by kernel_rfl
abbrev t39 : PTab := (87, [(a38, r38), (a37, r37), (a36, r36)]) :: t36
theorem p39 : POk Tryz.prog cx t39 := POk.next qsOk p38 (by kernel_rfl) run38
/- interleave/interleaveref09.Step, 4104 operations -/
def a39 : List T := [l67, l70, l22]
def r39 : T := (.tuple [l72, l38, (.bool true)])
theorem run39 : callP ((87, [(a38, r38), (a37, r37), (a36, r36)]) :: t36) ft 100000 87 a39 ⟨0, 0, []⟩ = some (r39, ⟨0, 0, []⟩) := by kernel_rfl
abbrev t40 : PTab := (87, [(a39, r39), (a38, r38), (a37, r37), (a36, r36)]) :: t36
theorem p40 : POk Tryz.prog cx t40 := POk.next qsOk p39 (by kernel_rfl) run39
/- interleave/interleaveref09.Step, 4234 operations -/
def a40 : List T := [l67, l72, l39]
def r40 : T := (.tuple [l73, l41, (.bool true)])
theorem run40 : callP ((87, [(a39, r39), (a38, r38), (a37, r37), (a36, r36)]) :: t36) ft 100000 87 a40 ⟨0, 0, []⟩ = some (r40, ⟨0, 0, []⟩) := by kernel_rfl
abbrev t41 : PTab := (87, [(a40, r40), (a39, r39), (a38, r38), (a37, r37), (a36, r36)]) :: t36
theorem p41 : POk Tryz.prog cx t41 := POk.next qsOk p40 (by kernel_rfl) run40
/- interleave/interleaveref09.Step, 4303 operations -/
def a41 : List T := [l67, l73, l39]
def r41 : T := (.tuple [l74, l75, (.bool true)])
theorem run41 : callP ((87, [(a40, r40), (a39, r39), (a38, r38), (a37, r37), (a36, r36)]) :: t36) ft 100000 87 a41 ⟨0, 0, []⟩ = some (r41, ⟨0, 0, []⟩) := by kernel_rfl
abbrev t42 : PTab := (87, [(a41, r41), (a40, r40), (a39, r39), (a38, r38), (a37, r37), (a36, r36)]) :: t36
theorem p42 : POk Tryz.prog cx t42 := POk.next qsOk p41 (by kernel_rfl) run41
/- interleave/interleaveref09.Step, 4104 operations -/
def a42 : List T := [l67, l74, l39]
def r42 : T := (.tuple [l76, l51, (.bool true)])
theorem run42 : callP ((87, [(a41, r41), (a40, r40), (a39, r39), (a38, r38), (a37, r37), (a36, r36)]) :: t36) ft 100000 87 a42 ⟨0, 0, []⟩ = some (r42, ⟨0, 0, []⟩) := by kernel_rfl
abbrev t43 : PTab := (87, [(a42, r42), (a41, r41), (a40, r40), (a39, r39), (a38, r38), (a37, r37), (a36, r36)]) :: t36
theorem p43 : POk Tryz.prog cx t43 := POk.next qsOk p42 (by kernel_rfl) run42
/- interleave/interleaveref09.Complete, 51822 operations -/
def a43 : List T := [l67, (.tree [] false)]
def r43 : T := (.tuple [(.agg [(.tree [l0] false), (.tree [] false), (.tree [] false), (.tree [] false), (.tree [(.str [116]), (.str [117])] false), (.tree [l2, l3, l4] false), (.tree [l26, l29, l31, l38, l41, l75, l51] false)]), l76])
theorem run43 : callP ((18, []) :: t43) ft 100000 18 a43 ⟨0, 0, []⟩ = some (r43, ⟨0, 0, []⟩) := by kernel_rfl
abbrev t44 : PTab := (18, [(a43, r43)]) :: t43
theorem p44 : POk Tryz.prog cx t44 := POk.next qsOk (POk.new (f := 18) p43) (by kernel_rfl) run43
end Go.Proofs.YtemkchpdcgkeiaaGreatDoor
