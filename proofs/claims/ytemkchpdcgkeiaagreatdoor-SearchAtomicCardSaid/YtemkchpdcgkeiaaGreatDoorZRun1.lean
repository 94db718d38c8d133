/- A part of the run. By program (mkrunp.py). -/
import Derived.Test.YtemkchpdcgkeiaaGreatDoorZRun0
set_option linter.unusedSimpArgs false
set_option linter.unusedVariables false
namespace Go.Proofs.YtemkchpdcgkeiaaGreatDoor
open Go Go.TI
set_option linter.unusedVariables false
set_option maxRecDepth 100000
/- interleave/interleavelaw21.text, 68537 operations -/
def a29 : List T := [(.str [118, 97, 114, 32, 120, 59, 32, 109, 117, 116, 101, 120, 32, 109, 59, 32, 116, 104, 114, 101, 97, 100, 32, 116, 40, 97, 41, 32, 123, 32, 115, 112, 97, 119, 110, 32, 117, 59, 32, 97, 116, 111, 109, 105, 99, 32, 123, 32, 108, 111, 99, 107, 32, 109, 32, 123, 32, 97, 32, 61, 32, 120, 59, 32, 120, 32, 61, 32, 97, 32, 43, 32, 49, 59, 32, 125, 32, 125, 32, 125, 32, 116, 104, 114, 101, 97, 100, 32, 117, 40, 41, 32, 123, 32, 108, 111, 99, 107, 32, 109, 32, 123, 32, 120, 32, 61, 32, 53, 59, 32, 125, 32, 125])]
def r29 : T := l75
theorem run29 : callP ((9, []) :: t29) ft 100000 9 a29 ⟨0, 0, []⟩ = some (r29, ⟨0, 0, []⟩) := by kernel_rfl
abbrev es30 : List (List T × T) := (a29, r29) :: []
abbrev t30 : PTab := (9, es30) :: t29
theorem p30 : POk Tryz.prog cx t30 := POk.next qsOk (POk.new (f := 9) p29) (by kernel_rfl) run29
/- interleave/interleaveref18.Before, 5027 operations -/
def a30 : List T := [l49, (.int .i64 7)]
def r30 : T := (.agg [l12, (.int .i64 (.negSucc 0)), (.tree [] false), (.tree [l36, l13] false), (.tree [(.int .i64 1)] false), (.tree [] false), l76])
theorem run30 : callP ((176, []) :: t30) ft 100000 176 a30 ⟨0, 0, []⟩ = some (r30, ⟨0, 0, []⟩) := by kernel_rfl
abbrev es31 : List (List T × T) := (a30, r30) :: []
abbrev t31 : PTab := (176, es31) :: t30
theorem p31 : POk Tryz.prog cx t31 := POk.next qsOk (POk.new (f := 176) p30) (by kernel_rfl) run30
/- interleave/interleaveref18.Before, 5607 operations -/
def a31 : List T := [l49, (.int .i64 8)]
def r31 : T := (.agg [l12, (.int .i64 (.negSucc 0)), (.tree [] false), (.tree [l36, l20] false), (.tree [(.int .i64 1)] false), (.tree [] false), (.tree [(.int .i64 7), (.int .i64 1)] false)])
theorem run31 : callP ((176, es31) :: t30) ft 100000 176 a31 ⟨0, 0, []⟩ = some (r31, ⟨0, 0, []⟩) := by kernel_rfl
abbrev es32 : List (List T × T) := (a31, r31) :: es31
abbrev t32 : PTab := (176, es32) :: t30
theorem p32 : POk Tryz.prog cx t32 := POk.next qsOk p31 (by kernel_rfl) run31
/- interleave/interleaveref18.Before, 6369 operations -/
def a32 : List T := [l49, (.int .i64 9)]
def r32 : T := (.agg [l12, (.int .i64 (.negSucc 0)), (.tree [] false), (.tree [l36, l20] false), (.tree [(.int .i64 5)] false), (.tree [] false), (.tree [(.int .i64 7), (.int .i64 2)] false)])
theorem run32 : callP ((176, es32) :: t30) ft 100000 176 a32 ⟨0, 0, []⟩ = some (r32, ⟨0, 0, []⟩) := by kernel_rfl
abbrev es33 : List (List T × T) := (a32, r32) :: es32
abbrev t33 : PTab := (176, es33) :: t30
theorem p33 : POk Tryz.prog cx t33 := POk.next qsOk p32 (by kernel_rfl) run32
/- interleave/interleaveref18.Before, 2115 operations -/
def a33 : List T := [l49, (.int .i64 3)]
def r33 : T := l77
theorem run33 : callP ((176, es33) :: t30) ft 100000 176 a33 ⟨0, 0, []⟩ = some (r33, ⟨0, 0, []⟩) := by kernel_rfl
abbrev es34 : List (List T × T) := (a33, r33) :: es33
abbrev t34 : PTab := (176, es34) :: t30
theorem p34 : POk Tryz.prog cx t34 := POk.next qsOk p33 (by kernel_rfl) run33
end Go.Proofs.YtemkchpdcgkeiaaGreatDoor
