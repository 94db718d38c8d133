/- A part of the run. By program (mkrunp.py). -/
import Derived.Test.YtemkchpdcgkeiaaGreatDoorZRun5
set_option linter.unusedSimpArgs false
set_option linter.unusedVariables false
namespace Go.Proofs.YtemkchpdcgkeiaaGreatDoor
open Go Go.TI
set_option linter.unusedVariables false
set_option maxRecDepth 100000
/- interleave/interleaveref18.Before, 3461 operations -/
def a30 : List T := [l61, (.int .i64 5)]
def r30 : T := l62
theorem run30 : callP ((176, []) :: t30) ft 100000 176 a30 ⟨0, 0, []⟩ = some (r30, ⟨0, 0, []⟩) := by kernel_rfl
abbrev t31 : PTab := (176, [(a30, r30)]) :: t30
theorem p31 : POk Tryz.prog cx t31 := POk.next qsOk (POk.new (f := 176) p30) (by kernel_rfl) run30
/- interleave/interleaveref18.Before, 4012 operations -/
def a31 : List T := [l61, (.int .i64 6)]
def r31 : T := l63
theorem run31 : callP ((176, [(a30, r30)]) :: t30) ft 100000 176 a31 ⟨0, 0, []⟩ = some (r31, ⟨0, 0, []⟩) := by kernel_rfl
abbrev t32 : PTab := (176, [(a31, r31), (a30, r30)]) :: t30
theorem p32 : POk Tryz.prog cx t32 := POk.next qsOk p31 (by kernel_rfl) run31
/- interleave/interleaveref18.Before, 4736 operations -/
def a32 : List T := [l61, (.int .i64 7)]
def r32 : T := l64
theorem run32 : callP ((176, [(a31, r31), (a30, r30)]) :: t30) ft 100000 176 a32 ⟨0, 0, []⟩ = some (r32, ⟨0, 0, []⟩) := by kernel_rfl
abbrev t33 : PTab := (176, [(a32, r32), (a31, r31), (a30, r30)]) :: t30
theorem p33 : POk Tryz.prog cx t33 := POk.next qsOk p32 (by kernel_rfl) run32
/- interleave/interleaveref18.Before, 5469 operations -/
def a33 : List T := [l61, (.int .i64 8)]
def r33 : T := (.agg [(.tree [] false), (.int .i64 (.negSucc 0)), (.tree [] false), (.tree [l35, l23] false), l47, (.tree [] false), l65])
theorem run33 : callP ((176, [(a32, r32), (a31, r31), (a30, r30)]) :: t30) ft 100000 176 a33 ⟨0, 0, []⟩ = some (r33, ⟨0, 0, []⟩) := by kernel_rfl
abbrev t34 : PTab := (176, [(a33, r33), (a32, r32), (a31, r31), (a30, r30)]) :: t30
theorem p34 : POk Tryz.prog cx t34 := POk.next qsOk p33 (by kernel_rfl) run33
/- interleave/interleaveref20.List, 52490 operations -/
def a34 : List T := [l61]
def r34 : T := l66
theorem run34 : callP ((20, []) :: t34) ft 100000 20 a34 ⟨0, 0, []⟩ = some (r34, ⟨0, 0, []⟩) := by kernel_rfl
abbrev t35 : PTab := (20, [(a34, r34)]) :: t34
theorem p35 : POk Tryz.prog cx t35 := POk.next qsOk (POk.new (f := 20) p34) (by kernel_rfl) run34
/- interleave/search.All, 46850 operations -/
def a35 : List T := [l61]
def r35 : T := l66
theorem run35 : callP ((21, []) :: t35) ft 100000 21 a35 ⟨0, 0, []⟩ = some (r35, ⟨0, 0, []⟩) := by kernel_rfl
abbrev t36 : PTab := (21, [(a35, r35)]) :: t35
theorem p36 : POk Tryz.prog cx t36 := POk.next qsOk (POk.new (f := 21) p35) (by kernel_rfl) run35
end Go.Proofs.YtemkchpdcgkeiaaGreatDoor
