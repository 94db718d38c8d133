/- A part of the run. By program (mkrunp.py). -/
import Derived.Test.YtemkchpdcgkeiaaGreatDoorZCalls
import Derived.Test.YtemkchpdcgkeiaaGreatDoorZLit
set_option linter.unusedSimpArgs false
set_option linter.unusedVariables false
namespace Go.Proofs.YtemkchpdcgkeiaaGreatDoor
open Go Go.TI
set_option linter.unusedVariables false
set_option maxRecDepth 100000
noncomputable def ft : FuncId → Option Quick := fun f => qs.find f
abbrev t0 : PTab := []
theorem p0 : POk Tryz.prog cx t0 := .nil
/- interleave/compile.ValidWorld, 1247 operations -/
def a0 : List T := [(.agg [(.tree [] false), l0, (.tree [] false), (.tree [] false), (.tree [(.str [116]), (.str [117])] false), l2])]
def r0 : T := (.bool true)
theorem run0 : callP ((216, []) :: t0) ft 100000 216 a0 ⟨0, 0, []⟩ = some (r0, ⟨0, 0, []⟩) := by kernel_rfl
abbrev t1 : PTab := (216, [(a0, r0)]) :: t0
theorem p1 : POk Tryz.prog cx t1 := POk.next qsOk (POk.new (f := 216) p0) (by kernel_rfl) run0
/- interleave/compile.Valid, 2327 operations -/
def a1 : List T := [l5]
def r1 : T := (.bool true)
theorem run1 : callP ((135, []) :: t1) ft 100000 135 a1 ⟨0, 0, []⟩ = some (r1, ⟨0, 0, []⟩) := by kernel_rfl
abbrev t2 : PTab := (135, [(a1, r1)]) :: t1
theorem p2 : POk Tryz.prog cx t2 := POk.next qsOk (POk.new (f := 135) p1) (by kernel_rfl) run1
/- interleave/explore.Deadlocks, 55961 operations -/
def a2 : List T := [l5, (.int .i64 6)]
def r2 : T := (.tree [(.tree [(.int .i64 2), (.int .i64 4)] false)] false)
theorem run2 : callP ((16, []) :: t2) ft 100000 16 a2 ⟨0, 0, []⟩ = some (r2, ⟨0, 0, []⟩) := by kernel_rfl
abbrev t3 : PTab := (16, [(a2, r2)]) :: t2
theorem p3 : POk Tryz.prog cx t3 := POk.next qsOk (POk.new (f := 16) p2) (by kernel_rfl) run2
/- interleave/compile.Valid, 2327 operations -/
def a3 : List T := [l6]
def r3 : T := (.bool true)
theorem run3 : callP ((135, []) :: t3) ft 100000 135 a3 ⟨0, 0, []⟩ = some (r3, ⟨0, 0, []⟩) := by kernel_rfl
abbrev t4 : PTab := (135, [(a3, r3)]) :: t3
theorem p4 : POk Tryz.prog cx t4 := POk.next qsOk (POk.new (f := 135) p3) (by kernel_rfl) run3
end Go.Proofs.YtemkchpdcgkeiaaGreatDoor
