/- A part of the run. By program (mkrunp.py). -/
import Derived.Test.YtemkchpdcgkeiaaGreatDoorZCalls
import Derived.Test.YtemkchpdcgkeiaaGreatDoorZLit
set_option linter.unusedSimpArgs false
set_option linter.unusedVariables false
namespace Go.Proofs.YtemkchpdcgkeiaaGreatDoor
open Go Go.TI
set_option linter.unusedVariables false
set_option maxRecDepth 100000
noncomputable def ft : FuncId → Option Quick := fun f => qs.find f
abbrev t0 : PTab := []
theorem p0 : POk Tryz.prog cx t0 := .nil
/- interleave/compile.ValidWorld, 949 operations -/
def a0 : List T := [(.agg [l0, (.tree [] false), (.tree [] false), (.tree [] false), (.tree [(.str [116]), (.str [117])] false), (.tree [l1, l2, l3] false)])]
def r0 : T := (.bool true)
theorem run0 : callP ((216, []) :: t0) ft 100000 216 a0 ⟨0, 0, []⟩ = some (r0, ⟨0, 0, []⟩) := by kernel_rfl
abbrev es1 : List (List T × T) := (a0, r0) :: []
abbrev t1 : PTab := (216, es1) :: t0
theorem p1 : POk Tryz.prog cx t1 := POk.next qsOk (POk.new (f := 216) p0) (by kernel_rfl) run0
/- interleave/compile.Valid, 1683 operations -/
def a1 : List T := [l7]
def r1 : T := (.bool true)
theorem run1 : callP ((135, []) :: t1) ft 100000 135 a1 ⟨0, 0, []⟩ = some (r1, ⟨0, 0, []⟩) := by kernel_rfl
abbrev es2 : List (List T × T) := (a1, r1) :: []
abbrev t2 : PTab := (135, es2) :: t1
theorem p2 : POk Tryz.prog cx t2 := POk.next qsOk (POk.new (f := 135) p1) (by kernel_rfl) run1
/- interleave/explore.Races, 53778 operations -/
def a2 : List T := [l7, (.int .i64 6)]
def r2 : T := (.tree [(.agg [(.int .i64 1), (.int .i64 2)])] false)
theorem run2 : callP ((14, []) :: t2) ft 100000 14 a2 ⟨0, 0, []⟩ = some (r2, ⟨0, 0, []⟩) := by kernel_rfl
abbrev es3 : List (List T × T) := (a2, r2) :: []
abbrev t3 : PTab := (14, es3) :: t2
theorem p3 : POk Tryz.prog cx t3 := POk.next qsOk (POk.new (f := 14) p2) (by kernel_rfl) run2
/- interleave/compile.ValidWorld, 1259 operations -/
def a3 : List T := [(.agg [l0, l8, (.tree [] false), (.tree [] false), (.tree [(.str [116]), (.str [117])] false), l9])]
def r3 : T := (.bool true)
theorem run3 : callP ((216, []) :: t3) ft 100000 216 a3 ⟨0, 0, []⟩ = some (r3, ⟨0, 0, []⟩) := by kernel_rfl
abbrev es4 : List (List T × T) := (a3, r3) :: []
abbrev t4 : PTab := (216, es4) :: t3
theorem p4 : POk Tryz.prog cx t4 := POk.next qsOk (POk.new (f := 216) p3) (by kernel_rfl) run3
/- interleave/compile.Valid, 2503 operations -/
def a4 : List T := [l10]
def r4 : T := (.bool true)
theorem run4 : callP ((135, []) :: t4) ft 100000 135 a4 ⟨0, 0, []⟩ = some (r4, ⟨0, 0, []⟩) := by kernel_rfl
abbrev es5 : List (List T × T) := (a4, r4) :: []
abbrev t5 : PTab := (135, es5) :: t4
theorem p5 : POk Tryz.prog cx t5 := POk.next qsOk (POk.new (f := 135) p4) (by kernel_rfl) run4
end Go.Proofs.YtemkchpdcgkeiaaGreatDoor
