/- A part of the run. By program (mkrunp.py). -/
import Derived.Test.YtemkchpdcgkeiaaGreatDoorZRun1
set_option linter.unusedSimpArgs false
set_option linter.unusedVariables false
namespace Go.Proofs.YtemkchpdcgkeiaaGreatDoor
open Go Go.TI
set_option linter.unusedVariables false
set_option maxRecDepth 100000
/- interleave/interleavelaw21.text, 46274 operations -/
def a11 : List T := [(.str [118, 97, 114, 32, 120, 59, 32, 118, 111, 108, 97, 116, 105, 108, 101, 32, 121, 59, 32, 116, 104, 114, 101, 97, 100, 32, 116, 40, 41, 32, 123, 32, 115, 112, 97, 119, 110, 32, 117, 59, 32, 120, 32, 61, 32, 49, 59, 32, 121, 32, 61, 32, 49, 59, 32, 125, 32, 116, 104, 114, 101, 97, 100, 32, 117, 40, 97, 41, 32, 123, 32, 105, 102, 32, 121, 32, 123, 32, 120, 32, 61, 32, 50, 59, 32, 125, 32, 125])]
def r11 : T := l53
theorem run11 : callP ((9, []) :: t11) ft 100000 9 a11 ⟨0, 0, []⟩ = some (r11, ⟨0, 0, []⟩) := by kernel_rfl
abbrev t12 : PTab := (9, [(a11, r11)]) :: t11
theorem p12 : POk Tryz.prog cx t12 := POk.next qsOk (POk.new (f := 9) p11) (by kernel_rfl) run11
/- interleave/interleaveref09.Step, 5740 operations -/
def a12 : List T := [l54, l21, l22]
def r12 : T := (.tuple [l25, l26, (.bool true)])
theorem run12 : callP ((87, []) :: t12) ft 100000 87 a12 ⟨0, 0, []⟩ = some (r12, ⟨0, 0, []⟩) := by kernel_rfl
abbrev t13 : PTab := (87, [(a12, r12)]) :: t12
theorem p13 : POk Tryz.prog cx t13 := POk.next qsOk (POk.new (f := 87) p12) (by kernel_rfl) run12
/- interleave/interleaveref09.Step, 6094 operations -/
def a13 : List T := [l54, l25, l22]
def r13 : T := (.tuple [l28, l29, (.bool true)])
theorem run13 : callP ((87, [(a12, r12)]) :: t12) ft 100000 87 a13 ⟨0, 0, []⟩ = some (r13, ⟨0, 0, []⟩) := by kernel_rfl
abbrev t14 : PTab := (87, [(a13, r13), (a12, r12)]) :: t12
theorem p14 : POk Tryz.prog cx t14 := POk.next qsOk p13 (by kernel_rfl) run13
/- interleave/interleaveref09.Step, 6085 operations -/
def a14 : List T := [l54, l28, l22]
def r14 : T := (.tuple [l30, l31, (.bool true)])
theorem run14 : callP ((87, [(a13, r13), (a12, r12)]) :: t12) ft 100000 87 a14 ⟨0, 0, []⟩ = some (r14, ⟨0, 0, []⟩) := by kernel_rfl
abbrev t15 : PTab := (87, [(a14, r14), (a13, r13), (a12, r12)]) :: t12
theorem p15 : POk Tryz.prog cx t15 := POk.next qsOk p14 (by kernel_rfl) run14
/- interleave/interleaveref09.Step, 5947 operations -/
def a15 : List T := [l54, l30, l22]
def r15 : T := (.tuple [l33, l34, (.bool true)])
theorem run15 : callP ((87, [(a14, r14), (a13, r13), (a12, r12)]) :: t12) ft 100000 87 a15 ⟨0, 0, []⟩ = some (r15, ⟨0, 0, []⟩) := by kernel_rfl
abbrev t16 : PTab := (87, [(a15, r15), (a14, r14), (a13, r13), (a12, r12)]) :: t12
theorem p16 : POk Tryz.prog cx t16 := POk.next qsOk p15 (by kernel_rfl) run15
/- interleave/interleaveref09.Step, 5748 operations -/
def a16 : List T := [l54, l33, l22]
def r16 : T := (.tuple [l37, l38, (.bool true)])
theorem run16 : callP ((87, [(a15, r15), (a14, r14), (a13, r13), (a12, r12)]) :: t12) ft 100000 87 a16 ⟨0, 0, []⟩ = some (r16, ⟨0, 0, []⟩) := by kernel_rfl
abbrev t17 : PTab := (87, [(a16, r16), (a15, r15), (a14, r14), (a13, r13), (a12, r12)]) :: t12
theorem p17 : POk Tryz.prog cx t17 := POk.next qsOk p16 (by kernel_rfl) run16
/- interleave/interleaveref09.Step, 5761 operations -/
def a17 : List T := [l54, l37, l39]
def r17 : T := (.tuple [l40, l41, (.bool true)])
theorem run17 : callP ((87, [(a16, r16), (a15, r15), (a14, r14), (a13, r13), (a12, r12)]) :: t12) ft 100000 87 a17 ⟨0, 0, []⟩ = some (r17, ⟨0, 0, []⟩) := by kernel_rfl
abbrev t18 : PTab := (87, [(a17, r17), (a16, r16), (a15, r15), (a14, r14), (a13, r13), (a12, r12)]) :: t12
theorem p18 : POk Tryz.prog cx t18 := POk.next qsOk p17 (by kernel_rfl) run17
/- interleave/interleaveref09.Step, 6263 operations -/
def a18 : List T := [l54, l40, l39]
def r18 : T := (.tuple [l57, l43, (.bool true)])
theorem run18 : callP ((87, [(a17, r17), (a16, r16), (a15, r15), (a14, r14), (a13, r13), (a12, r12)]) :: t12) ft 100000 87 a18 ⟨0, 0, []⟩ = some (r18, ⟨0, 0, []⟩) := by kernel_rfl
abbrev t19 : PTab := (87, [(a18, r18), (a17, r17), (a16, r16), (a15, r15), (a14, r14), (a13, r13), (a12, r12)]) :: t12
theorem p19 : POk Tryz.prog cx t19 := POk.next qsOk p18 (by kernel_rfl) run18
/- interleave/interleaveref09.Step, 5968 operations -/
def a19 : List T := [l54, l57, l39]
def r19 : T := (.tuple [l58, l49, (.bool true)])
theorem run19 : callP ((87, [(a18, r18), (a17, r17), (a16, r16), (a15, r15), (a14, r14), (a13, r13), (a12, r12)]) :: t12) ft 100000 87 a19 ⟨0, 0, []⟩ = some (r19, ⟨0, 0, []⟩) := by kernel_rfl
abbrev t20 : PTab := (87, [(a19, r19), (a18, r18), (a17, r17), (a16, r16), (a15, r15), (a14, r14), (a13, r13), (a12, r12)]) :: t12
theorem p20 : POk Tryz.prog cx t20 := POk.next qsOk p19 (by kernel_rfl) run19
/- interleave/interleaveref09.Step, 5748 operations -/
def a20 : List T := [l54, l58, l39]
def r20 : T := (.tuple [l59, l51, (.bool true)])
theorem run20 : callP ((87, [(a19, r19), (a18, r18), (a17, r17), (a16, r16), (a15, r15), (a14, r14), (a13, r13), (a12, r12)]) :: t12) ft 100000 87 a20 ⟨0, 0, []⟩ = some (r20, ⟨0, 0, []⟩) := by kernel_rfl
abbrev t21 : PTab := (87, [(a20, r20), (a19, r19), (a18, r18), (a17, r17), (a16, r16), (a15, r15), (a14, r14), (a13, r13), (a12, r12)]) :: t12
theorem p21 : POk Tryz.prog cx t21 := POk.next qsOk p20 (by kernel_rfl) run20
end Go.Proofs.YtemkchpdcgkeiaaGreatDoor
