/- A part of the run. By program (mkrunp.py). -/
import Derived.Test.YtemkchpdcgkeiaaGreatDoorZCalls
import Derived.Test.YtemkchpdcgkeiaaGreatDoorZLit
set_option linter.unusedSimpArgs false
set_option linter.unusedVariables false
namespace Go.Proofs.YtemkchpdcgkeiaaGreatDoor
open Go Go.TI
set_option linter.unusedVariables false
set_option maxRecDepth 100000
noncomputable def ft : FuncId → Option Quick := fun f => qs.find f
abbrev t0 : PTab := []
theorem p0 : POk Tryz.prog cx t0 := .nil
/- interleave/interleaveref06.ValidWorld, 2136 operations -/
def a0 : List T := [(.agg [l0, l1, (.tree [] false), (.tree [] false), (.tree [(.str [116]), (.str [117])] false), (.tree [l2, l3, l4, l5, l6] false)])]
def r0 : T := (.bool true)
theorem run0 : callP ((85, []) :: t0) ft 100000 85 a0 ⟨0, 0, []⟩ = some (r0, ⟨0, 0, []⟩) := by kernel_rfl
abbrev es1 : List (List T × T) := (a0, r0) :: []
abbrev t1 : PTab := (85, es1) :: t0
theorem p1 : POk Tryz.prog cx t1 := POk.next qsOk (POk.new (f := 85) p0) (by kernel_rfl) run0
/- interleave/interleaveref06.Valid, 3548 operations -/
def a1 : List T := [l11]
def r1 : T := (.bool true)
theorem run1 : callP ((42, []) :: t1) ft 100000 42 a1 ⟨0, 0, []⟩ = some (r1, ⟨0, 0, []⟩) := by kernel_rfl
abbrev es2 : List (List T × T) := (a1, r1) :: []
abbrev t2 : PTab := (42, es2) :: t1
theorem p2 : POk Tryz.prog cx t2 := POk.next qsOk (POk.new (f := 42) p1) (by kernel_rfl) run1
/- interleave/interleaveref09.Step, 941 operations -/
def a2 : List T := [l11, l18, l19]
def r2 : T := (.tuple [l21, l22, (.bool true)])
theorem run2 : callP ((87, []) :: t2) ft 100000 87 a2 ⟨0, 0, []⟩ = some (r2, ⟨0, 0, []⟩) := by kernel_rfl
abbrev es3 : List (List T × T) := (a2, r2) :: []
abbrev t3 : PTab := (87, es3) :: t2
theorem p3 : POk Tryz.prog cx t3 := POk.next qsOk (POk.new (f := 87) p2) (by kernel_rfl) run2
/- interleave/interleaveref09.Step, 1157 operations -/
def a3 : List T := [l11, l21, l19]
def r3 : T := (.tuple [l23, l24, (.bool true)])
theorem run3 : callP ((87, es3) :: t2) ft 100000 87 a3 ⟨0, 0, []⟩ = some (r3, ⟨0, 0, []⟩) := by kernel_rfl
abbrev es4 : List (List T × T) := (a3, r3) :: es3
abbrev t4 : PTab := (87, es4) :: t2
theorem p4 : POk Tryz.prog cx t4 := POk.next qsOk p3 (by kernel_rfl) run3
/- interleave/interleaveref09.Step, 1080 operations -/
def a4 : List T := [l11, l23, l19]
def r4 : T := (.tuple [l26, l27, (.bool true)])
theorem run4 : callP ((87, es4) :: t2) ft 100000 87 a4 ⟨0, 0, []⟩ = some (r4, ⟨0, 0, []⟩) := by kernel_rfl
abbrev es5 : List (List T × T) := (a4, r4) :: es4
abbrev t5 : PTab := (87, es5) :: t2
theorem p5 : POk Tryz.prog cx t5 := POk.next qsOk p4 (by kernel_rfl) run4
/- interleave/interleaveref09.Step, 1950 operations -/
def a5 : List T := [l11, l26, l19]
def r5 : T := (.tuple [l30, l31, (.bool true)])
theorem run5 : callP ((87, es5) :: t2) ft 100000 87 a5 ⟨0, 0, []⟩ = some (r5, ⟨0, 0, []⟩) := by kernel_rfl
abbrev es6 : List (List T × T) := (a5, r5) :: es5
abbrev t6 : PTab := (87, es6) :: t2
theorem p6 : POk Tryz.prog cx t6 := POk.next qsOk p5 (by kernel_rfl) run5
/- interleave/interleaveref09.Step, 1148 operations -/
def a6 : List T := [l11, l30, l19]
def r6 : T := (.tuple [l32, l33, (.bool true)])
theorem run6 : callP ((87, es6) :: t2) ft 100000 87 a6 ⟨0, 0, []⟩ = some (r6, ⟨0, 0, []⟩) := by kernel_rfl
abbrev es7 : List (List T × T) := (a6, r6) :: es6
abbrev t7 : PTab := (87, es7) :: t2
theorem p7 : POk Tryz.prog cx t7 := POk.next qsOk p6 (by kernel_rfl) run6
/- interleave/interleaveref09.Step, 1087 operations -/
def a7 : List T := [l11, l32, l19]
def r7 : T := (.tuple [l34, l35, (.bool true)])
theorem run7 : callP ((87, es7) :: t2) ft 100000 87 a7 ⟨0, 0, []⟩ = some (r7, ⟨0, 0, []⟩) := by kernel_rfl
abbrev es8 : List (List T × T) := (a7, r7) :: es7
abbrev t8 : PTab := (87, es8) :: t2
theorem p8 : POk Tryz.prog cx t8 := POk.next qsOk p7 (by kernel_rfl) run7
/- interleave/interleaveref09.Step, 907 operations -/
def a8 : List T := [l11, l34, l19]
def r8 : T := (.tuple [l38, l39, (.bool true)])
theorem run8 : callP ((87, es8) :: t2) ft 100000 87 a8 ⟨0, 0, []⟩ = some (r8, ⟨0, 0, []⟩) := by kernel_rfl
abbrev es9 : List (List T × T) := (a8, r8) :: es8
abbrev t9 : PTab := (87, es9) :: t2
theorem p9 : POk Tryz.prog cx t9 := POk.next qsOk p8 (by kernel_rfl) run8
/- interleave/interleaveref09.Step, 1037 operations -/
def a9 : List T := [l11, l38, l40]
def r9 : T := (.tuple [l41, l42, (.bool true)])
theorem run9 : callP ((87, es9) :: t2) ft 100000 87 a9 ⟨0, 0, []⟩ = some (r9, ⟨0, 0, []⟩) := by kernel_rfl
abbrev es10 : List (List T × T) := (a9, r9) :: es9
abbrev t10 : PTab := (87, es10) :: t2
theorem p10 : POk Tryz.prog cx t10 := POk.next qsOk p9 (by kernel_rfl) run9
/- interleave/interleaveref09.Step, 1106 operations -/
def a10 : List T := [l11, l41, l40]
def r10 : T := (.tuple [l44, l45, (.bool true)])
theorem run10 : callP ((87, es10) :: t2) ft 100000 87 a10 ⟨0, 0, []⟩ = some (r10, ⟨0, 0, []⟩) := by kernel_rfl
abbrev es11 : List (List T × T) := (a10, r10) :: es10
abbrev t11 : PTab := (87, es11) :: t2
theorem p11 : POk Tryz.prog cx t11 := POk.next qsOk p10 (by kernel_rfl) run10
/- interleave/interleaveref09.Step, 907 operations -/
def a11 : List T := [l11, l44, l40]
def r11 : T := (.tuple [(.agg [l12, (.int .i64 (.negSucc 0)), (.tree [] false), (.tree [l36, l36] false), (.tree [(.int .i64 5)] false), (.tree [] false), (.tree [l37, (.agg [(.int .i64 2), (.tree [(.int .i64 5)] false), (.tree [(.tree [] false)] false), (.int .i64 3)])] false)]), l46, (.bool true)])
theorem run11 : callP ((87, es11) :: t2) ft 100000 87 a11 ⟨0, 0, []⟩ = some (r11, ⟨0, 0, []⟩) := by kernel_rfl
abbrev es12 : List (List T × T) := (a11, r11) :: es11
abbrev t12 : PTab := (87, es12) :: t2
theorem p12 : POk Tryz.prog cx t12 := POk.next qsOk p11 (by kernel_rfl) run11
/- interleave/interleavelaw21.text, 54327 operations -/
def a12 : List T := [(.str [118, 97, 114, 32, 120, 59, 32, 109, 117, 116, 101, 120, 32, 109, 59, 32, 116, 104, 114, 101, 97, 100, 32, 116, 40, 97, 41, 32, 123, 32, 115, 112, 97, 119, 110, 32, 117, 59, 32, 97, 116, 111, 109, 105, 99, 32, 123, 32, 97, 32, 61, 32, 120, 59, 32, 120, 32, 61, 32, 97, 32, 43, 32, 49, 59, 32, 125, 32, 125, 32, 116, 104, 114, 101, 97, 100, 32, 117, 40, 41, 32, 123, 32, 120, 32, 61, 32, 53, 59, 32, 125])]
def r12 : T := l49
theorem run12 : callP ((9, []) :: t12) ft 100000 9 a12 ⟨0, 0, []⟩ = some (r12, ⟨0, 0, []⟩) := by kernel_rfl
abbrev es13 : List (List T × T) := (a12, r12) :: []
abbrev t13 : PTab := (9, es13) :: t12
theorem p13 : POk Tryz.prog cx t13 := POk.next qsOk (POk.new (f := 9) p12) (by kernel_rfl) run12
/- interleave/interleaveref06.ValidWorld, 2238 operations -/
def a13 : List T := [(.agg [l0, l1, (.tree [] false), (.tree [] false), (.tree [(.str [116]), (.str [117])] false), l50])]
def r13 : T := (.bool true)
theorem run13 : callP ((85, []) :: t13) ft 100000 85 a13 ⟨0, 0, []⟩ = some (r13, ⟨0, 0, []⟩) := by kernel_rfl
abbrev es14 : List (List T × T) := (a13, r13) :: []
abbrev t14 : PTab := (85, es14) :: t13
theorem p14 : POk Tryz.prog cx t14 := POk.next qsOk (POk.new (f := 85) p13) (by kernel_rfl) run13
/- interleave/interleaveref06.Valid, 4408 operations -/
def a14 : List T := [l51]
def r14 : T := (.bool true)
theorem run14 : callP ((42, []) :: t14) ft 100000 42 a14 ⟨0, 0, []⟩ = some (r14, ⟨0, 0, []⟩) := by kernel_rfl
abbrev es15 : List (List T × T) := (a14, r14) :: []
abbrev t15 : PTab := (42, es15) :: t14
theorem p15 : POk Tryz.prog cx t15 := POk.next qsOk (POk.new (f := 42) p14) (by kernel_rfl) run14
/- interleave/interleaveref09.Step, 941 operations -/
def a15 : List T := [l51, l18, l19]
def r15 : T := (.tuple [l21, l22, (.bool true)])
theorem run15 : callP ((87, []) :: t15) ft 100000 87 a15 ⟨0, 0, []⟩ = some (r15, ⟨0, 0, []⟩) := by kernel_rfl
abbrev es16 : List (List T × T) := (a15, r15) :: []
abbrev t16 : PTab := (87, es16) :: t15
theorem p16 : POk Tryz.prog cx t16 := POk.next qsOk (POk.new (f := 87) p15) (by kernel_rfl) run15
/- interleave/interleaveref09.Step, 1157 operations -/
def a16 : List T := [l51, l21, l19]
def r16 : T := (.tuple [l23, l24, (.bool true)])
theorem run16 : callP ((87, es16) :: t15) ft 100000 87 a16 ⟨0, 0, []⟩ = some (r16, ⟨0, 0, []⟩) := by kernel_rfl
abbrev es17 : List (List T × T) := (a16, r16) :: es16
abbrev t17 : PTab := (87, es17) :: t15
theorem p17 : POk Tryz.prog cx t17 := POk.next qsOk p16 (by kernel_rfl) run16
/- interleave/interleaveref09.Step, 1080 operations -/
def a17 : List T := [l51, l23, l19]
def r17 : T := (.tuple [l26, l27, (.bool true)])
theorem run17 : callP ((87, es17) :: t15) ft 100000 87 a17 ⟨0, 0, []⟩ = some (r17, ⟨0, 0, []⟩) := by kernel_rfl
abbrev es18 : List (List T × T) := (a17, r17) :: es17
abbrev t18 : PTab := (87, es18) :: t15
theorem p18 : POk Tryz.prog cx t18 := POk.next qsOk p17 (by kernel_rfl) run17
/- interleave/interleaveref09.Step, 1088 operations -/
def a18 : List T := [l51, l26, l19]
def r18 : T := (.tuple [l53, l54, (.bool true)])
theorem run18 : callP ((87, es18) :: t15) ft 100000 87 a18 ⟨0, 0, []⟩ = some (r18, ⟨0, 0, []⟩) := by kernel_rfl
abbrev es19 : List (List T × T) := (a18, r18) :: es18
abbrev t19 : PTab := (87, es19) :: t15
theorem p19 : POk Tryz.prog cx t19 := POk.next qsOk p18 (by kernel_rfl) run18
/- interleave/interleaveref09.Step, 1950 operations -/
def a19 : List T := [l51, l53, l19]
def r19 : T := (.tuple [l56, l57, (.bool true)])
theorem run19 : callP ((87, es19) :: t15) ft 100000 87 a19 ⟨0, 0, []⟩ = some (r19, ⟨0, 0, []⟩) := by kernel_rfl
abbrev es20 : List (List T × T) := (a19, r19) :: es19
abbrev t20 : PTab := (87, es20) :: t15
theorem p20 : POk Tryz.prog cx t20 := POk.next qsOk p19 (by kernel_rfl) run19
/- interleave/interleaveref09.Step, 1148 operations -/
def a20 : List T := [l51, l56, l19]
def r20 : T := (.tuple [l58, l59, (.bool true)])
theorem run20 : callP ((87, es20) :: t15) ft 100000 87 a20 ⟨0, 0, []⟩ = some (r20, ⟨0, 0, []⟩) := by kernel_rfl
abbrev es21 : List (List T × T) := (a20, r20) :: es20
abbrev t21 : PTab := (87, es21) :: t15
theorem p21 : POk Tryz.prog cx t21 := POk.next qsOk p20 (by kernel_rfl) run20
/- interleave/interleaveref09.Step, 1100 operations -/
def a21 : List T := [l51, l58, l19]
def r21 : T := (.tuple [l60, l61, (.bool true)])
theorem run21 : callP ((87, es21) :: t15) ft 100000 87 a21 ⟨0, 0, []⟩ = some (r21, ⟨0, 0, []⟩) := by kernel_rfl
abbrev es22 : List (List T × T) := (a21, r21) :: es21
abbrev t22 : PTab := (87, es22) :: t15
theorem p22 : POk Tryz.prog cx t22 := POk.next qsOk p21 (by kernel_rfl) run21
/- interleave/interleaveref09.Step, 1087 operations -/
def a22 : List T := [l51, l60, l19]
def r22 : T := (.tuple [l62, l35, (.bool true)])
theorem run22 : callP ((87, es22) :: t15) ft 100000 87 a22 ⟨0, 0, []⟩ = some (r22, ⟨0, 0, []⟩) := by kernel_rfl
abbrev es23 : List (List T × T) := (a22, r22) :: es22
abbrev t23 : PTab := (87, es23) :: t15
theorem p23 : POk Tryz.prog cx t23 := POk.next qsOk p22 (by kernel_rfl) run22
/- interleave/interleaveref09.Step, 907 operations -/
def a23 : List T := [l51, l62, l19]
def r23 : T := (.tuple [l64, l39, (.bool true)])
theorem run23 : callP ((87, es23) :: t15) ft 100000 87 a23 ⟨0, 0, []⟩ = some (r23, ⟨0, 0, []⟩) := by kernel_rfl
abbrev es24 : List (List T × T) := (a23, r23) :: es23
abbrev t24 : PTab := (87, es24) :: t15
theorem p24 : POk Tryz.prog cx t24 := POk.next qsOk p23 (by kernel_rfl) run23
/- interleave/interleaveref09.Step, 899 operations -/
def a24 : List T := [l51, l64, l40]
def r24 : T := (.tuple [l66, l42, (.bool true)])
theorem run24 : callP ((87, es24) :: t15) ft 100000 87 a24 ⟨0, 0, []⟩ = some (r24, ⟨0, 0, []⟩) := by kernel_rfl
abbrev es25 : List (List T × T) := (a24, r24) :: es24
abbrev t25 : PTab := (87, es25) :: t15
theorem p25 : POk Tryz.prog cx t25 := POk.next qsOk p24 (by kernel_rfl) run24
/- interleave/interleaveref09.Step, 1184 operations -/
def a25 : List T := [l51, l66, l40]
def r25 : T := (.tuple [l68, l69, (.bool true)])
theorem run25 : callP ((87, es25) :: t15) ft 100000 87 a25 ⟨0, 0, []⟩ = some (r25, ⟨0, 0, []⟩) := by kernel_rfl
abbrev es26 : List (List T × T) := (a25, r25) :: es25
abbrev t26 : PTab := (87, es26) :: t15
theorem p26 : POk Tryz.prog cx t26 := POk.next qsOk p25 (by kernel_rfl) run25
/- interleave/interleaveref09.Step, 1106 operations -/
def a26 : List T := [l51, l68, l40]
def r26 : T := (.tuple [l70, l71, (.bool true)])
theorem run26 : callP ((87, es26) :: t15) ft 100000 87 a26 ⟨0, 0, []⟩ = some (r26, ⟨0, 0, []⟩) := by kernel_rfl
abbrev es27 : List (List T × T) := (a26, r26) :: es26
abbrev t27 : PTab := (87, es27) :: t15
theorem p27 : POk Tryz.prog cx t27 := POk.next qsOk p26 (by kernel_rfl) run26
/- interleave/interleaveref09.Step, 1058 operations -/
def a27 : List T := [l51, l70, l40]
def r27 : T := (.tuple [l72, l73, (.bool true)])
theorem run27 : callP ((87, es27) :: t15) ft 100000 87 a27 ⟨0, 0, []⟩ = some (r27, ⟨0, 0, []⟩) := by kernel_rfl
abbrev es28 : List (List T × T) := (a27, r27) :: es27
abbrev t28 : PTab := (87, es28) :: t15
theorem p28 : POk Tryz.prog cx t28 := POk.next qsOk p27 (by kernel_rfl) run27
/- interleave/interleaveref09.Step, 907 operations -/
def a28 : List T := [l51, l72, l40]
def r28 : T := (.tuple [(.agg [l12, (.int .i64 (.negSucc 0)), (.tree [] false), (.tree [l36, l36] false), (.tree [(.int .i64 5)] false), (.tree [] false), (.tree [l63, (.agg [(.int .i64 4), (.tree [(.int .i64 5)] false), (.tree [(.tree [] false)] false), (.int .i64 5)])] false)]), l46, (.bool true)])
theorem run28 : callP ((87, es28) :: t15) ft 100000 87 a28 ⟨0, 0, []⟩ = some (r28, ⟨0, 0, []⟩) := by kernel_rfl
abbrev es29 : List (List T × T) := (a28, r28) :: es28
abbrev t29 : PTab := (87, es29) :: t15
theorem p29 : POk Tryz.prog cx t29 := POk.next qsOk p28 (by kernel_rfl) run28
end Go.Proofs.YtemkchpdcgkeiaaGreatDoor
