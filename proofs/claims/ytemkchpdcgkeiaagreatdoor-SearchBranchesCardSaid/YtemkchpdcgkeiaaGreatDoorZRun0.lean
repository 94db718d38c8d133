/- A part of the run. By program (mkrunp.py). -/
import Derived.Test.YtemkchpdcgkeiaaGreatDoorZCalls
import Derived.Test.YtemkchpdcgkeiaaGreatDoorZLit
set_option linter.unusedSimpArgs false
set_option linter.unusedVariables false
namespace Go.Proofs.YtemkchpdcgkeiaaGreatDoor
open Go Go.TI
set_option linter.unusedVariables false
set_option maxRecDepth 100000
noncomputable def ft : FuncId → Option Quick := fun f => qs.find f
abbrev t0 : PTab := []
theorem p0 : POk Tryz.prog cx t0 := .nil
/- interleave/interleaveref09.Step, 5641 operations -/
def a0 : List T := [l14, l21, l22]
def r0 : T := (.tuple [l25, l26, (.bool true)])
theorem run0 : callP ((87, []) :: t0) ft 100000 87 a0 ⟨0, 0, []⟩ = some (r0, ⟨0, 0, []⟩) := by kernel_rfl
abbrev t1 : PTab := (87, [(a0, r0)]) :: t0
theorem p1 : POk Tryz.prog cx t1 := POk.next qsOk (POk.new (f := 87) p0) (by kernel_rfl) run0
/- interleave/interleaveref09.Step, 5995 operations -/
def a1 : List T := [l14, l25, l22]
def r1 : T := (.tuple [l28, l29, (.bool true)])
theorem run1 : callP ((87, [(a0, r0)]) :: t0) ft 100000 87 a1 ⟨0, 0, []⟩ = some (r1, ⟨0, 0, []⟩) := by kernel_rfl
abbrev t2 : PTab := (87, [(a1, r1), (a0, r0)]) :: t0
theorem p2 : POk Tryz.prog cx t2 := POk.next qsOk p1 (by kernel_rfl) run1
/- interleave/interleaveref09.Step, 5986 operations -/
def a2 : List T := [l14, l28, l22]
def r2 : T := (.tuple [l30, l31, (.bool true)])
theorem run2 : callP ((87, [(a1, r1), (a0, r0)]) :: t0) ft 100000 87 a2 ⟨0, 0, []⟩ = some (r2, ⟨0, 0, []⟩) := by kernel_rfl
abbrev t3 : PTab := (87, [(a2, r2), (a1, r1), (a0, r0)]) :: t0
theorem p3 : POk Tryz.prog cx t3 := POk.next qsOk p2 (by kernel_rfl) run2
/- interleave/interleaveref09.Step, 5848 operations -/
def a3 : List T := [l14, l30, l22]
def r3 : T := (.tuple [l33, l34, (.bool true)])
theorem run3 : callP ((87, [(a2, r2), (a1, r1), (a0, r0)]) :: t0) ft 100000 87 a3 ⟨0, 0, []⟩ = some (r3, ⟨0, 0, []⟩) := by kernel_rfl
abbrev t4 : PTab := (87, [(a3, r3), (a2, r2), (a1, r1), (a0, r0)]) :: t0
theorem p4 : POk Tryz.prog cx t4 := POk.next qsOk p3 (by kernel_rfl) run3
/- interleave/interleaveref09.Step, 5649 operations -/
def a4 : List T := [l14, l33, l22]
def r4 : T := (.tuple [l37, l38, (.bool true)])
theorem run4 : callP ((87, [(a3, r3), (a2, r2), (a1, r1), (a0, r0)]) :: t0) ft 100000 87 a4 ⟨0, 0, []⟩ = some (r4, ⟨0, 0, []⟩) := by kernel_rfl
abbrev t5 : PTab := (87, [(a4, r4), (a3, r3), (a2, r2), (a1, r1), (a0, r0)]) :: t0
theorem p5 : POk Tryz.prog cx t5 := POk.next qsOk p4 (by kernel_rfl) run4
/- interleave/interleaveref09.Step, 5662 operations -/
def a5 : List T := [l14, l37, l39]
def r5 : T := (.tuple [l40, l41, (.bool true)])
theorem run5 : callP ((87, [(a4, r4), (a3, r3), (a2, r2), (a1, r1), (a0, r0)]) :: t0) ft 100000 87 a5 ⟨0, 0, []⟩ = some (r5, ⟨0, 0, []⟩) := by kernel_rfl
abbrev t6 : PTab := (87, [(a5, r5), (a4, r4), (a3, r3), (a2, r2), (a1, r1), (a0, r0)]) :: t0
theorem p6 : POk Tryz.prog cx t6 := POk.next qsOk p5 (by kernel_rfl) run5
/- interleave/interleaveref09.Step, 5843 operations -/
def a6 : List T := [l14, l40, l39]
def r6 : T := (.tuple [l42, l43, (.bool true)])
theorem run6 : callP ((87, [(a5, r5), (a4, r4), (a3, r3), (a2, r2), (a1, r1), (a0, r0)]) :: t0) ft 100000 87 a6 ⟨0, 0, []⟩ = some (r6, ⟨0, 0, []⟩) := by kernel_rfl
abbrev t7 : PTab := (87, [(a6, r6), (a5, r5), (a4, r4), (a3, r3), (a2, r2), (a1, r1), (a0, r0)]) :: t0
theorem p7 : POk Tryz.prog cx t7 := POk.next qsOk p6 (by kernel_rfl) run6
/- interleave/interleaveref09.Step, 5964 operations -/
def a7 : List T := [l14, l42, l39]
def r7 : T := (.tuple [l45, l46, (.bool true)])
theorem run7 : callP ((87, [(a6, r6), (a5, r5), (a4, r4), (a3, r3), (a2, r2), (a1, r1), (a0, r0)]) :: t0) ft 100000 87 a7 ⟨0, 0, []⟩ = some (r7, ⟨0, 0, []⟩) := by kernel_rfl
abbrev t8 : PTab := (87, [(a7, r7), (a6, r6), (a5, r5), (a4, r4), (a3, r3), (a2, r2), (a1, r1), (a0, r0)]) :: t0
theorem p8 : POk Tryz.prog cx t8 := POk.next qsOk p7 (by kernel_rfl) run7
/- interleave/interleaveref09.Step, 5869 operations -/
def a8 : List T := [l14, l45, l39]
def r8 : T := (.tuple [l48, l49, (.bool true)])
theorem run8 : callP ((87, [(a7, r7), (a6, r6), (a5, r5), (a4, r4), (a3, r3), (a2, r2), (a1, r1), (a0, r0)]) :: t0) ft 100000 87 a8 ⟨0, 0, []⟩ = some (r8, ⟨0, 0, []⟩) := by kernel_rfl
abbrev t9 : PTab := (87, [(a8, r8), (a7, r7), (a6, r6), (a5, r5), (a4, r4), (a3, r3), (a2, r2), (a1, r1), (a0, r0)]) :: t0
theorem p9 : POk Tryz.prog cx t9 := POk.next qsOk p8 (by kernel_rfl) run8
/- interleave/interleaveref09.Step, 5649 operations -/
def a9 : List T := [l14, l48, l39]
def r9 : T := (.tuple [l50, l51, (.bool true)])
theorem run9 : callP ((87, [(a8, r8), (a7, r7), (a6, r6), (a5, r5), (a4, r4), (a3, r3), (a2, r2), (a1, r1), (a0, r0)]) :: t0) ft 100000 87 a9 ⟨0, 0, []⟩ = some (r9, ⟨0, 0, []⟩) := by kernel_rfl
abbrev t10 : PTab := (87, [(a9, r9), (a8, r8), (a7, r7), (a6, r6), (a5, r5), (a4, r4), (a3, r3), (a2, r2), (a1, r1), (a0, r0)]) :: t0
theorem p10 : POk Tryz.prog cx t10 := POk.next qsOk p9 (by kernel_rfl) run9
end Go.Proofs.YtemkchpdcgkeiaaGreatDoor
