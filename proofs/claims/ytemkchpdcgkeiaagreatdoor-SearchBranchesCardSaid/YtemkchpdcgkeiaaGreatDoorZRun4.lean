/- A part of the run. By program (mkrunp.py). -/
import Derived.Test.YtemkchpdcgkeiaaGreatDoorZRun3
set_option linter.unusedSimpArgs false
set_option linter.unusedVariables false
namespace Go.Proofs.YtemkchpdcgkeiaaGreatDoor
open Go Go.TI
set_option linter.unusedVariables false
set_option maxRecDepth 100000
/- interleave/interleavelaw21.text, 46052 operations -/
def a22 : List T := [(.str [118, 97, 114, 32, 120, 59, 32, 118, 111, 108, 97, 116, 105, 108, 101, 32, 121, 59, 32, 116, 104, 114, 101, 97, 100, 32, 116, 40, 41, 32, 123, 32, 115, 112, 97, 119, 110, 32, 117, 59, 32, 120, 32, 61, 32, 49, 59, 32, 121, 32, 61, 32, 49, 59, 32, 125, 32, 116, 104, 114, 101, 97, 100, 32, 117, 40, 97, 41, 32, 123, 32, 97, 32, 61, 32, 121, 59, 32, 120, 32, 61, 32, 50, 59, 32, 125])]
def r22 : T := l61
theorem run22 : callP ((9, []) :: t22) ft 100000 9 a22 ⟨0, 0, []⟩ = some (r22, ⟨0, 0, []⟩) := by kernel_rfl
abbrev t23 : PTab := (9, [(a22, r22)]) :: t22
theorem p23 : POk Tryz.prog cx t23 := POk.next qsOk (POk.new (f := 9) p22) (by kernel_rfl) run22
/- interleave/interleaveref18.Before, 3461 operations -/
def a23 : List T := [l53, (.int .i64 5)]
def r23 : T := l62
theorem run23 : callP ((176, []) :: t23) ft 100000 176 a23 ⟨0, 0, []⟩ = some (r23, ⟨0, 0, []⟩) := by kernel_rfl
abbrev t24 : PTab := (176, [(a23, r23)]) :: t23
theorem p24 : POk Tryz.prog cx t24 := POk.next qsOk (POk.new (f := 176) p23) (by kernel_rfl) run23
/- interleave/interleaveref18.Before, 4012 operations -/
def a24 : List T := [l53, (.int .i64 6)]
def r24 : T := l63
theorem run24 : callP ((176, [(a23, r23)]) :: t23) ft 100000 176 a24 ⟨0, 0, []⟩ = some (r24, ⟨0, 0, []⟩) := by kernel_rfl
abbrev t25 : PTab := (176, [(a24, r24), (a23, r23)]) :: t23
theorem p25 : POk Tryz.prog cx t25 := POk.next qsOk p24 (by kernel_rfl) run24
/- interleave/interleaveref18.Before, 4736 operations -/
def a25 : List T := [l53, (.int .i64 7)]
def r25 : T := l64
theorem run25 : callP ((176, [(a24, r24), (a23, r23)]) :: t23) ft 100000 176 a25 ⟨0, 0, []⟩ = some (r25, ⟨0, 0, []⟩) := by kernel_rfl
abbrev t26 : PTab := (176, [(a25, r25), (a24, r24), (a23, r23)]) :: t23
theorem p26 : POk Tryz.prog cx t26 := POk.next qsOk p25 (by kernel_rfl) run25
/- interleave/interleaveref18.Before, 5455 operations -/
def a26 : List T := [l53, (.int .i64 8)]
def r26 : T := (.agg [(.tree [] false), (.int .i64 (.negSucc 0)), (.tree [] false), (.tree [l35, l23] false), l32, (.tree [] false), l65])
theorem run26 : callP ((176, [(a25, r25), (a24, r24), (a23, r23)]) :: t23) ft 100000 176 a26 ⟨0, 0, []⟩ = some (r26, ⟨0, 0, []⟩) := by kernel_rfl
abbrev t27 : PTab := (176, [(a26, r26), (a25, r25), (a24, r24), (a23, r23)]) :: t23
theorem p27 : POk Tryz.prog cx t27 := POk.next qsOk p26 (by kernel_rfl) run26
/- interleave/interleaveref18.Before, 6188 operations -/
def a27 : List T := [l53, (.int .i64 9)]
def r27 : T := (.agg [(.tree [] false), (.int .i64 (.negSucc 0)), (.tree [] false), (.tree [l35, l23] false), l47, (.tree [] false), (.tree [(.int .i64 5), (.int .i64 4)] false)])
theorem run27 : callP ((176, [(a26, r26), (a25, r25), (a24, r24), (a23, r23)]) :: t23) ft 100000 176 a27 ⟨0, 0, []⟩ = some (r27, ⟨0, 0, []⟩) := by kernel_rfl
abbrev t28 : PTab := (176, [(a27, r27), (a26, r26), (a25, r25), (a24, r24), (a23, r23)]) :: t23
theorem p28 : POk Tryz.prog cx t28 := POk.next qsOk p27 (by kernel_rfl) run27
end Go.Proofs.YtemkchpdcgkeiaaGreatDoor
