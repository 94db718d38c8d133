/- A part of the run. By program (mkrunp.py). -/
import Derived.Test.YtemkchpdcgkeiaaGreatDoorZCalls
import Derived.Test.YtemkchpdcgkeiaaGreatDoorZLit
set_option linter.unusedSimpArgs false
set_option linter.unusedVariables false
namespace Go.Proofs.YtemkchpdcgkeiaaGreatDoor
open Go Go.TI
set_option linter.unusedVariables false
set_option maxRecDepth 100000
noncomputable def ft : FuncId → Option Quick := fun f => qs.find f
abbrev t0 : PTab := []
theorem p0 : POk Tryz.prog cx t0 := .nil
/- interleave/interleaveref06.ValidWorld, 2127 operations -/
def a0 : List T := [(.agg [(.tree [] false), l0, (.tree [] false), (.tree [] false), (.tree [(.str [116]), (.str [117])] false), (.tree [l1, l2, l3, l4, l5] false)])]
def r0 : T := (.bool true)
theorem run0 : callP ((85, []) :: t0) ft 100000 85 a0 ⟨0, 0, []⟩ = some (r0, ⟨0, 0, []⟩) := by kernel_rfl
abbrev t1 : PTab := (85, [(a0, r0)]) :: t0
theorem p1 : POk Tryz.prog cx t1 := POk.next qsOk (POk.new (f := 85) p0) (by kernel_rfl) run0
/- interleave/interleaveref06.Valid, 2468 operations -/
def a1 : List T := [l14]
def r1 : T := (.bool true)
theorem run1 : callP ((42, []) :: t1) ft 100000 42 a1 ⟨0, 0, []⟩ = some (r1, ⟨0, 0, []⟩) := by kernel_rfl
abbrev t2 : PTab := (42, [(a1, r1)]) :: t1
theorem p2 : POk Tryz.prog cx t2 := POk.next qsOk (POk.new (f := 42) p1) (by kernel_rfl) run1
/- interleave/interleaveref09.Step, 852 operations -/
def a2 : List T := [l14, (.agg [(.tree [l15, l15] false), (.int .i64 (.negSucc 0)), (.tree [] false), (.tree [l16, l17] false), (.tree [] false), (.tree [] false), (.tree [l18, l18] false)]), l19]
def r2 : T := (.tuple [l22, l23, (.bool true)])
theorem run2 : callP ((87, []) :: t2) ft 100000 87 a2 ⟨0, 0, []⟩ = some (r2, ⟨0, 0, []⟩) := by kernel_rfl
abbrev t3 : PTab := (87, [(a2, r2)]) :: t2
theorem p3 : POk Tryz.prog cx t3 := POk.next qsOk (POk.new (f := 87) p2) (by kernel_rfl) run2
/- interleave/interleaveref09.Step, 1068 operations -/
def a3 : List T := [l14, l22, l19]
def r3 : T := (.tuple [l25, l26, (.bool true)])
theorem run3 : callP ((87, [(a2, r2)]) :: t2) ft 100000 87 a3 ⟨0, 0, []⟩ = some (r3, ⟨0, 0, []⟩) := by kernel_rfl
abbrev t4 : PTab := (87, [(a3, r3), (a2, r2)]) :: t2
theorem p4 : POk Tryz.prog cx t4 := POk.next qsOk p3 (by kernel_rfl) run3
/- interleave/interleaveref09.Step, 999 operations -/
def a4 : List T := [l14, l25, l19]
def r4 : T := (.tuple [l29, l30, (.bool true)])
theorem run4 : callP ((87, [(a3, r3), (a2, r2)]) :: t2) ft 100000 87 a4 ⟨0, 0, []⟩ = some (r4, ⟨0, 0, []⟩) := by kernel_rfl
abbrev t5 : PTab := (87, [(a4, r4), (a3, r3), (a2, r2)]) :: t2
theorem p5 : POk Tryz.prog cx t5 := POk.next qsOk p4 (by kernel_rfl) run4
/- interleave/interleaveref09.Step, 999 operations -/
def a5 : List T := [l14, l29, l19]
def r5 : T := (.tuple [l33, l34, (.bool true)])
theorem run5 : callP ((87, [(a4, r4), (a3, r3), (a2, r2)]) :: t2) ft 100000 87 a5 ⟨0, 0, []⟩ = some (r5, ⟨0, 0, []⟩) := by kernel_rfl
abbrev t6 : PTab := (87, [(a5, r5), (a4, r4), (a3, r3), (a2, r2)]) :: t2
theorem p6 : POk Tryz.prog cx t6 := POk.next qsOk p5 (by kernel_rfl) run5
/- interleave/interleaveref09.Step, 1011 operations -/
def a6 : List T := [l14, l33, l19]
def r6 : T := (.tuple [l36, l37, (.bool true)])
theorem run6 : callP ((87, [(a5, r5), (a4, r4), (a3, r3), (a2, r2)]) :: t2) ft 100000 87 a6 ⟨0, 0, []⟩ = some (r6, ⟨0, 0, []⟩) := by kernel_rfl
abbrev t7 : PTab := (87, [(a6, r6), (a5, r5), (a4, r4), (a3, r3), (a2, r2)]) :: t2
theorem p7 : POk Tryz.prog cx t7 := POk.next qsOk p6 (by kernel_rfl) run6
/- interleave/interleaveref09.Step, 1011 operations -/
def a7 : List T := [l14, l36, l19]
def r7 : T := (.tuple [l39, l40, (.bool true)])
theorem run7 : callP ((87, [(a6, r6), (a5, r5), (a4, r4), (a3, r3), (a2, r2)]) :: t2) ft 100000 87 a7 ⟨0, 0, []⟩ = some (r7, ⟨0, 0, []⟩) := by kernel_rfl
abbrev t8 : PTab := (87, [(a7, r7), (a6, r6), (a5, r5), (a4, r4), (a3, r3), (a2, r2)]) :: t2
theorem p8 : POk Tryz.prog cx t8 := POk.next qsOk p7 (by kernel_rfl) run7
/- interleave/interleaveref09.Step, 881 operations -/
def a8 : List T := [l14, l39, l19]
def r8 : T := (.tuple [l43, l44, (.bool true)])
theorem run8 : callP ((87, [(a7, r7), (a6, r6), (a5, r5), (a4, r4), (a3, r3), (a2, r2)]) :: t2) ft 100000 87 a8 ⟨0, 0, []⟩ = some (r8, ⟨0, 0, []⟩) := by kernel_rfl
abbrev t9 : PTab := (87, [(a8, r8), (a7, r7), (a6, r6), (a5, r5), (a4, r4), (a3, r3), (a2, r2)]) :: t2
theorem p9 : POk Tryz.prog cx t9 := POk.next qsOk p8 (by kernel_rfl) run8
/- interleave/interleaveref09.Step, 852 operations -/
def a9 : List T := [l14, l43, l45]
def r9 : T := (.tuple [l46, l47, (.bool true)])
theorem run9 : callP ((87, [(a8, r8), (a7, r7), (a6, r6), (a5, r5), (a4, r4), (a3, r3), (a2, r2)]) :: t2) ft 100000 87 a9 ⟨0, 0, []⟩ = some (r9, ⟨0, 0, []⟩) := by kernel_rfl
abbrev t10 : PTab := (87, [(a9, r9), (a8, r8), (a7, r7), (a6, r6), (a5, r5), (a4, r4), (a3, r3), (a2, r2)]) :: t2
theorem p10 : POk Tryz.prog cx t10 := POk.next qsOk p9 (by kernel_rfl) run9
/- interleave/interleaveref09.Step, 999 operations -/
def a10 : List T := [l14, l46, l45]
def r10 : T := (.tuple [l49, l50, (.bool true)])
theorem run10 : callP ((87, [(a9, r9), (a8, r8), (a7, r7), (a6, r6), (a5, r5), (a4, r4), (a3, r3), (a2, r2)]) :: t2) ft 100000 87 a10 ⟨0, 0, []⟩ = some (r10, ⟨0, 0, []⟩) := by kernel_rfl
abbrev t11 : PTab := (87, [(a10, r10), (a9, r9), (a8, r8), (a7, r7), (a6, r6), (a5, r5), (a4, r4), (a3, r3), (a2, r2)]) :: t2
theorem p11 : POk Tryz.prog cx t11 := POk.next qsOk p10 (by kernel_rfl) run10
/- interleave/interleaveref09.Step, 999 operations -/
def a11 : List T := [l14, l49, l45]
def r11 : T := (.tuple [l52, l53, (.bool true)])
theorem run11 : callP ((87, [(a10, r10), (a9, r9), (a8, r8), (a7, r7), (a6, r6), (a5, r5), (a4, r4), (a3, r3), (a2, r2)]) :: t2) ft 100000 87 a11 ⟨0, 0, []⟩ = some (r11, ⟨0, 0, []⟩) := by kernel_rfl
abbrev t12 : PTab := (87, [(a11, r11), (a10, r10), (a9, r9), (a8, r8), (a7, r7), (a6, r6), (a5, r5), (a4, r4), (a3, r3), (a2, r2)]) :: t2
theorem p12 : POk Tryz.prog cx t12 := POk.next qsOk p11 (by kernel_rfl) run11
/- interleave/interleaveref09.Step, 1011 operations -/
def a12 : List T := [l14, l52, l45]
def r12 : T := (.tuple [l54, l55, (.bool true)])
theorem run12 : callP ((87, [(a11, r11), (a10, r10), (a9, r9), (a8, r8), (a7, r7), (a6, r6), (a5, r5), (a4, r4), (a3, r3), (a2, r2)]) :: t2) ft 100000 87 a12 ⟨0, 0, []⟩ = some (r12, ⟨0, 0, []⟩) := by kernel_rfl
abbrev t13 : PTab := (87, [(a12, r12), (a11, r11), (a10, r10), (a9, r9), (a8, r8), (a7, r7), (a6, r6), (a5, r5), (a4, r4), (a3, r3), (a2, r2)]) :: t2
theorem p13 : POk Tryz.prog cx t13 := POk.next qsOk p12 (by kernel_rfl) run12
/- interleave/interleaveref09.Step, 1011 operations -/
def a13 : List T := [l14, l54, l45]
def r13 : T := (.tuple [l56, l57, (.bool true)])
theorem run13 : callP ((87, [(a12, r12), (a11, r11), (a10, r10), (a9, r9), (a8, r8), (a7, r7), (a6, r6), (a5, r5), (a4, r4), (a3, r3), (a2, r2)]) :: t2) ft 100000 87 a13 ⟨0, 0, []⟩ = some (r13, ⟨0, 0, []⟩) := by kernel_rfl
abbrev t14 : PTab := (87, [(a13, r13), (a12, r12), (a11, r11), (a10, r10), (a9, r9), (a8, r8), (a7, r7), (a6, r6), (a5, r5), (a4, r4), (a3, r3), (a2, r2)]) :: t2
theorem p14 : POk Tryz.prog cx t14 := POk.next qsOk p13 (by kernel_rfl) run13
/- interleave/interleaveref09.Step, 881 operations -/
def a14 : List T := [l14, l56, l45]
def r14 : T := (.tuple [(.agg [(.tree [l15, l15] false), (.int .i64 (.negSucc 0)), (.tree [] false), (.tree [l41, l41] false), (.tree [] false), (.tree [] false), (.tree [l42, (.agg [(.int .i64 4), (.tree [] false), (.tree [] false), (.int .i64 6)])] false)]), l58, (.bool true)])
theorem run14 : callP ((87, [(a13, r13), (a12, r12), (a11, r11), (a10, r10), (a9, r9), (a8, r8), (a7, r7), (a6, r6), (a5, r5), (a4, r4), (a3, r3), (a2, r2)]) :: t2) ft 100000 87 a14 ⟨0, 0, []⟩ = some (r14, ⟨0, 0, []⟩) := by kernel_rfl
abbrev t15 : PTab := (87, [(a14, r14), (a13, r13), (a12, r12), (a11, r11), (a10, r10), (a9, r9), (a8, r8), (a7, r7), (a6, r6), (a5, r5), (a4, r4), (a3, r3), (a2, r2)]) :: t2
theorem p15 : POk Tryz.prog cx t15 := POk.next qsOk p14 (by kernel_rfl) run14
/- interleave/interleavelaw21.text, 50611 operations -/
def a15 : List T := [(.str [109, 117, 116, 101, 120, 32, 109, 59, 32, 109, 117, 116, 101, 120, 32, 110, 59, 32, 116, 104, 114, 101, 97, 100, 32, 116, 40, 41, 32, 123, 32, 115, 112, 97, 119, 110, 32, 117, 59, 32, 108, 111, 99, 107, 32, 109, 32, 123, 32, 108, 111, 99, 107, 32, 110, 32, 123, 32, 125, 32, 125, 32, 125, 32, 116, 104, 114, 101, 97, 100, 32, 117, 40, 41, 32, 123, 32, 108, 111, 99, 107, 32, 110, 32, 123, 32, 108, 111, 99, 107, 32, 109, 32, 123, 32, 125, 32, 125, 32, 125])]
def r15 : T := l60
theorem run15 : callP ((9, []) :: t15) ft 100000 9 a15 ⟨0, 0, []⟩ = some (r15, ⟨0, 0, []⟩) := by kernel_rfl
abbrev t16 : PTab := (9, [(a15, r15)]) :: t15
theorem p16 : POk Tryz.prog cx t16 := POk.next qsOk (POk.new (f := 9) p15) (by kernel_rfl) run15
/- interleave/interleaveref06.ValidWorld, 2709 operations -/
def a16 : List T := [(.agg [(.tree [] false), l61, (.tree [] false), (.tree [] false), (.tree [(.str [116]), (.str [117])] false), l62])]
def r16 : T := (.bool true)
theorem run16 : callP ((85, []) :: t16) ft 100000 85 a16 ⟨0, 0, []⟩ = some (r16, ⟨0, 0, []⟩) := by kernel_rfl
abbrev t17 : PTab := (85, [(a16, r16)]) :: t16
theorem p17 : POk Tryz.prog cx t17 := POk.next qsOk (POk.new (f := 85) p16) (by kernel_rfl) run16
/- interleave/interleaveref06.Valid, 3328 operations -/
def a17 : List T := [l63]
def r17 : T := (.bool true)
theorem run17 : callP ((42, []) :: t17) ft 100000 42 a17 ⟨0, 0, []⟩ = some (r17, ⟨0, 0, []⟩) := by kernel_rfl
abbrev t18 : PTab := (42, [(a17, r17)]) :: t17
theorem p18 : POk Tryz.prog cx t18 := POk.next qsOk (POk.new (f := 42) p17) (by kernel_rfl) run17
/- interleave/interleaveref09.Step, 910 operations -/
def a18 : List T := [l63, (.agg [(.tree [l15, l15, l15] false), (.int .i64 (.negSucc 0)), (.tree [] false), (.tree [l16, l17] false), (.tree [] false), (.tree [] false), (.tree [l18, l18] false)]), l19]
def r18 : T := (.tuple [l64, l23, (.bool true)])
theorem run18 : callP ((87, []) :: t18) ft 100000 87 a18 ⟨0, 0, []⟩ = some (r18, ⟨0, 0, []⟩) := by kernel_rfl
abbrev t19 : PTab := (87, [(a18, r18)]) :: t18
theorem p19 : POk Tryz.prog cx t19 := POk.next qsOk (POk.new (f := 87) p18) (by kernel_rfl) run18
/- interleave/interleaveref09.Step, 1126 operations -/
def a19 : List T := [l63, l64, l19]
def r19 : T := (.tuple [l65, l26, (.bool true)])
theorem run19 : callP ((87, [(a18, r18)]) :: t18) ft 100000 87 a19 ⟨0, 0, []⟩ = some (r19, ⟨0, 0, []⟩) := by kernel_rfl
abbrev t20 : PTab := (87, [(a19, r19), (a18, r18)]) :: t18
theorem p20 : POk Tryz.prog cx t20 := POk.next qsOk p19 (by kernel_rfl) run19
/- interleave/interleaveref09.Step, 1057 operations -/
def a20 : List T := [l63, l65, l19]
def r20 : T := (.tuple [l67, l30, (.bool true)])
theorem run20 : callP ((87, [(a19, r19), (a18, r18)]) :: t18) ft 100000 87 a20 ⟨0, 0, []⟩ = some (r20, ⟨0, 0, []⟩) := by kernel_rfl
abbrev t21 : PTab := (87, [(a20, r20), (a19, r19), (a18, r18)]) :: t18
theorem p21 : POk Tryz.prog cx t21 := POk.next qsOk p20 (by kernel_rfl) run20
/- interleave/interleaveref09.Step, 1057 operations -/
def a21 : List T := [l63, l67, l19]
def r21 : T := (.tuple [l69, l34, (.bool true)])
theorem run21 : callP ((87, [(a20, r20), (a19, r19), (a18, r18)]) :: t18) ft 100000 87 a21 ⟨0, 0, []⟩ = some (r21, ⟨0, 0, []⟩) := by kernel_rfl
abbrev t22 : PTab := (87, [(a21, r21), (a20, r20), (a19, r19), (a18, r18)]) :: t18
theorem p22 : POk Tryz.prog cx t22 := POk.next qsOk p21 (by kernel_rfl) run21
/- interleave/interleaveref09.Step, 1057 operations -/
def a22 : List T := [l63, l69, l19]
def r22 : T := (.tuple [l71, l72, (.bool true)])
theorem run22 : callP ((87, [(a21, r21), (a20, r20), (a19, r19), (a18, r18)]) :: t18) ft 100000 87 a22 ⟨0, 0, []⟩ = some (r22, ⟨0, 0, []⟩) := by kernel_rfl
abbrev t23 : PTab := (87, [(a22, r22), (a21, r21), (a20, r20), (a19, r19), (a18, r18)]) :: t18
theorem p23 : POk Tryz.prog cx t23 := POk.next qsOk p22 (by kernel_rfl) run22
/- interleave/interleaveref09.Step, 1069 operations -/
def a23 : List T := [l63, l71, l19]
def r23 : T := (.tuple [l73, l74, (.bool true)])
theorem run23 : callP ((87, [(a22, r22), (a21, r21), (a20, r20), (a19, r19), (a18, r18)]) :: t18) ft 100000 87 a23 ⟨0, 0, []⟩ = some (r23, ⟨0, 0, []⟩) := by kernel_rfl
abbrev t24 : PTab := (87, [(a23, r23), (a22, r22), (a21, r21), (a20, r20), (a19, r19), (a18, r18)]) :: t18
theorem p24 : POk Tryz.prog cx t24 := POk.next qsOk p23 (by kernel_rfl) run23
/- interleave/interleaveref09.Step, 1069 operations -/
def a24 : List T := [l63, l73, l19]
def r24 : T := (.tuple [l76, l37, (.bool true)])
theorem run24 : callP ((87, [(a23, r23), (a22, r22), (a21, r21), (a20, r20), (a19, r19), (a18, r18)]) :: t18) ft 100000 87 a24 ⟨0, 0, []⟩ = some (r24, ⟨0, 0, []⟩) := by kernel_rfl
abbrev t25 : PTab := (87, [(a24, r24), (a23, r23), (a22, r22), (a21, r21), (a20, r20), (a19, r19), (a18, r18)]) :: t18
theorem p25 : POk Tryz.prog cx t25 := POk.next qsOk p24 (by kernel_rfl) run24
/- interleave/interleaveref09.Step, 1069 operations -/
def a25 : List T := [l63, l76, l19]
def r25 : T := (.tuple [l77, l40, (.bool true)])
theorem run25 : callP ((87, [(a24, r24), (a23, r23), (a22, r22), (a21, r21), (a20, r20), (a19, r19), (a18, r18)]) :: t18) ft 100000 87 a25 ⟨0, 0, []⟩ = some (r25, ⟨0, 0, []⟩) := by kernel_rfl
abbrev t26 : PTab := (87, [(a25, r25), (a24, r24), (a23, r23), (a22, r22), (a21, r21), (a20, r20), (a19, r19), (a18, r18)]) :: t18
theorem p26 : POk Tryz.prog cx t26 := POk.next qsOk p25 (by kernel_rfl) run25
/- interleave/interleaveref09.Step, 939 operations -/
def a26 : List T := [l63, l77, l19]
def r26 : T := (.tuple [l79, l44, (.bool true)])
theorem run26 : callP ((87, [(a25, r25), (a24, r24), (a23, r23), (a22, r22), (a21, r21), (a20, r20), (a19, r19), (a18, r18)]) :: t18) ft 100000 87 a26 ⟨0, 0, []⟩ = some (r26, ⟨0, 0, []⟩) := by kernel_rfl
abbrev t27 : PTab := (87, [(a26, r26), (a25, r25), (a24, r24), (a23, r23), (a22, r22), (a21, r21), (a20, r20), (a19, r19), (a18, r18)]) :: t18
theorem p27 : POk Tryz.prog cx t27 := POk.next qsOk p26 (by kernel_rfl) run26
/- interleave/interleaveref09.Step, 910 operations -/
def a27 : List T := [l63, l79, l45]
def r27 : T := (.tuple [l80, l47, (.bool true)])
theorem run27 : callP ((87, [(a26, r26), (a25, r25), (a24, r24), (a23, r23), (a22, r22), (a21, r21), (a20, r20), (a19, r19), (a18, r18)]) :: t18) ft 100000 87 a27 ⟨0, 0, []⟩ = some (r27, ⟨0, 0, []⟩) := by kernel_rfl
abbrev t28 : PTab := (87, [(a27, r27), (a26, r26), (a25, r25), (a24, r24), (a23, r23), (a22, r22), (a21, r21), (a20, r20), (a19, r19), (a18, r18)]) :: t18
theorem p28 : POk Tryz.prog cx t28 := POk.next qsOk p27 (by kernel_rfl) run27
/- interleave/interleaveref09.Step, 1057 operations -/
def a28 : List T := [l63, l80, l45]
def r28 : T := (.tuple [l82, l53, (.bool true)])
theorem run28 : callP ((87, [(a27, r27), (a26, r26), (a25, r25), (a24, r24), (a23, r23), (a22, r22), (a21, r21), (a20, r20), (a19, r19), (a18, r18)]) :: t18) ft 100000 87 a28 ⟨0, 0, []⟩ = some (r28, ⟨0, 0, []⟩) := by kernel_rfl
abbrev t29 : PTab := (87, [(a28, r28), (a27, r27), (a26, r26), (a25, r25), (a24, r24), (a23, r23), (a22, r22), (a21, r21), (a20, r20), (a19, r19), (a18, r18)]) :: t18
theorem p29 : POk Tryz.prog cx t29 := POk.next qsOk p28 (by kernel_rfl) run28
/- interleave/interleaveref09.Step, 1057 operations -/
def a29 : List T := [l63, l82, l45]
def r29 : T := (.tuple [l84, l85, (.bool true)])
theorem run29 : callP ((87, [(a28, r28), (a27, r27), (a26, r26), (a25, r25), (a24, r24), (a23, r23), (a22, r22), (a21, r21), (a20, r20), (a19, r19), (a18, r18)]) :: t18) ft 100000 87 a29 ⟨0, 0, []⟩ = some (r29, ⟨0, 0, []⟩) := by kernel_rfl
abbrev t30 : PTab := (87, [(a29, r29), (a28, r28), (a27, r27), (a26, r26), (a25, r25), (a24, r24), (a23, r23), (a22, r22), (a21, r21), (a20, r20), (a19, r19), (a18, r18)]) :: t18
theorem p30 : POk Tryz.prog cx t30 := POk.next qsOk p29 (by kernel_rfl) run29
/- interleave/interleaveref09.Step, 1057 operations -/
def a30 : List T := [l63, l84, l45]
def r30 : T := (.tuple [l87, l88, (.bool true)])
theorem run30 : callP ((87, [(a29, r29), (a28, r28), (a27, r27), (a26, r26), (a25, r25), (a24, r24), (a23, r23), (a22, r22), (a21, r21), (a20, r20), (a19, r19), (a18, r18)]) :: t18) ft 100000 87 a30 ⟨0, 0, []⟩ = some (r30, ⟨0, 0, []⟩) := by kernel_rfl
abbrev t31 : PTab := (87, [(a30, r30), (a29, r29), (a28, r28), (a27, r27), (a26, r26), (a25, r25), (a24, r24), (a23, r23), (a22, r22), (a21, r21), (a20, r20), (a19, r19), (a18, r18)]) :: t18
theorem p31 : POk Tryz.prog cx t31 := POk.next qsOk p30 (by kernel_rfl) run30
/- interleave/interleaveref09.Step, 1069 operations -/
def a31 : List T := [l63, l87, l45]
def r31 : T := (.tuple [l89, l90, (.bool true)])
theorem run31 : callP ((87, [(a30, r30), (a29, r29), (a28, r28), (a27, r27), (a26, r26), (a25, r25), (a24, r24), (a23, r23), (a22, r22), (a21, r21), (a20, r20), (a19, r19), (a18, r18)]) :: t18) ft 100000 87 a31 ⟨0, 0, []⟩ = some (r31, ⟨0, 0, []⟩) := by kernel_rfl
abbrev t32 : PTab := (87, [(a31, r31), (a30, r30), (a29, r29), (a28, r28), (a27, r27), (a26, r26), (a25, r25), (a24, r24), (a23, r23), (a22, r22), (a21, r21), (a20, r20), (a19, r19), (a18, r18)]) :: t18
theorem p32 : POk Tryz.prog cx t32 := POk.next qsOk p31 (by kernel_rfl) run31
/- interleave/interleaveref09.Step, 1069 operations -/
def a32 : List T := [l63, l89, l45]
def r32 : T := (.tuple [l91, l92, (.bool true)])
theorem run32 : callP ((87, [(a31, r31), (a30, r30), (a29, r29), (a28, r28), (a27, r27), (a26, r26), (a25, r25), (a24, r24), (a23, r23), (a22, r22), (a21, r21), (a20, r20), (a19, r19), (a18, r18)]) :: t18) ft 100000 87 a32 ⟨0, 0, []⟩ = some (r32, ⟨0, 0, []⟩) := by kernel_rfl
abbrev t33 : PTab := (87, [(a32, r32), (a31, r31), (a30, r30), (a29, r29), (a28, r28), (a27, r27), (a26, r26), (a25, r25), (a24, r24), (a23, r23), (a22, r22), (a21, r21), (a20, r20), (a19, r19), (a18, r18)]) :: t18
theorem p33 : POk Tryz.prog cx t33 := POk.next qsOk p32 (by kernel_rfl) run32
/- interleave/interleaveref09.Step, 1069 operations -/
def a33 : List T := [l63, l91, l45]
def r33 : T := (.tuple [l93, l55, (.bool true)])
theorem run33 : callP ((87, [(a32, r32), (a31, r31), (a30, r30), (a29, r29), (a28, r28), (a27, r27), (a26, r26), (a25, r25), (a24, r24), (a23, r23), (a22, r22), (a21, r21), (a20, r20), (a19, r19), (a18, r18)]) :: t18) ft 100000 87 a33 ⟨0, 0, []⟩ = some (r33, ⟨0, 0, []⟩) := by kernel_rfl
abbrev t34 : PTab := (87, [(a33, r33), (a32, r32), (a31, r31), (a30, r30), (a29, r29), (a28, r28), (a27, r27), (a26, r26), (a25, r25), (a24, r24), (a23, r23), (a22, r22), (a21, r21), (a20, r20), (a19, r19), (a18, r18)]) :: t18
theorem p34 : POk Tryz.prog cx t34 := POk.next qsOk p33 (by kernel_rfl) run33
/- interleave/interleaveref09.Step, 939 operations -/
def a34 : List T := [l63, l93, l45]
def r34 : T := (.tuple [(.agg [(.tree [l15, l15, l15] false), (.int .i64 (.negSucc 0)), (.tree [] false), (.tree [l41, l41] false), (.tree [] false), (.tree [] false), (.tree [l78, (.agg [(.int .i64 6), (.tree [] false), (.tree [] false), (.int .i64 8)])] false)]), l58, (.bool true)])
theorem run34 : callP ((87, [(a33, r33), (a32, r32), (a31, r31), (a30, r30), (a29, r29), (a28, r28), (a27, r27), (a26, r26), (a25, r25), (a24, r24), (a23, r23), (a22, r22), (a21, r21), (a20, r20), (a19, r19), (a18, r18)]) :: t18) ft 100000 87 a34 ⟨0, 0, []⟩ = some (r34, ⟨0, 0, []⟩) := by kernel_rfl
abbrev t35 : PTab := (87, [(a34, r34), (a33, r33), (a32, r32), (a31, r31), (a30, r30), (a29, r29), (a28, r28), (a27, r27), (a26, r26), (a25, r25), (a24, r24), (a23, r23), (a22, r22), (a21, r21), (a20, r20), (a19, r19), (a18, r18)]) :: t18
theorem p35 : POk Tryz.prog cx t35 := POk.next qsOk p34 (by kernel_rfl) run34
end Go.Proofs.YtemkchpdcgkeiaaGreatDoor
