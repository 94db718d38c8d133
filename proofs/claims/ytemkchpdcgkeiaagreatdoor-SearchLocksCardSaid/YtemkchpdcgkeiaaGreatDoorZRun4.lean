/- A part of the run. By program (mkrunp.py). -/
import Derived.Test.YtemkchpdcgkeiaaGreatDoorZRun3
set_option linter.unusedSimpArgs false
set_option linter.unusedVariables false
namespace Go.Proofs.YtemkchpdcgkeiaaGreatDoor
open Go Go.TI
set_option linter.unusedVariables false
set_option maxRecDepth 100000
/- interleave/interleaveref18.Before, 11469 operations -/
def a55 : List T := [l94, (.int .i64 15)]
def r55 : T := (.agg [l81, (.int .i64 (.negSucc 0)), (.tree [] false), (.tree [l41, l20] false), (.tree [] false), (.tree [] false), (.tree [(.int .i64 9), (.int .i64 6)] false)])
theorem run55 : callP ((176, [(a54, r54), (a53, r53), (a52, r52), (a51, r51), (a50, r50), (a49, r49)]) :: t49) ft 100000 176 a55 ⟨0, 0, []⟩ = some (r55, ⟨0, 0, []⟩) := by kernel_rfl
abbrev t56 : PTab := (176, [(a55, r55), (a54, r54), (a53, r53), (a52, r52), (a51, r51), (a50, r50), (a49, r49)]) :: t49
theorem p56 : POk Tryz.prog cx t56 := POk.next qsOk p55 (by kernel_rfl) run55
/- interleave/interleaveref18.Before, 1538 operations -/
def a56 : List T := [l94, (.int .i64 2)]
def r56 : T := (.agg [(.tree [l15, l15, l15] false), (.int .i64 (.negSucc 0)), (.tree [] false), (.tree [l20, l16] false), (.tree [] false), (.tree [] false), l96])
theorem run56 : callP ((176, [(a55, r55), (a54, r54), (a53, r53), (a52, r52), (a51, r51), (a50, r50), (a49, r49)]) :: t49) ft 100000 176 a56 ⟨0, 0, []⟩ = some (r56, ⟨0, 0, []⟩) := by kernel_rfl
abbrev t57 : PTab := (176, [(a56, r56), (a55, r55), (a54, r54), (a53, r53), (a52, r52), (a51, r51), (a50, r50), (a49, r49)]) :: t49
theorem p57 : POk Tryz.prog cx t57 := POk.next qsOk p56 (by kernel_rfl) run56
/- interleave/interleaveref18.Before, 2308 operations -/
def a57 : List T := [l94, (.int .i64 3)]
def r57 : T := (.agg [l66, (.int .i64 (.negSucc 0)), (.tree [] false), (.tree [l20, l16] false), (.tree [] false), (.tree [] false), l97])
theorem run57 : callP ((176, [(a56, r56), (a55, r55), (a54, r54), (a53, r53), (a52, r52), (a51, r51), (a50, r50), (a49, r49)]) :: t49) ft 100000 176 a57 ⟨0, 0, []⟩ = some (r57, ⟨0, 0, []⟩) := by kernel_rfl
abbrev t58 : PTab := (176, [(a57, r57), (a56, r56), (a55, r55), (a54, r54), (a53, r53), (a52, r52), (a51, r51), (a50, r50), (a49, r49)]) :: t49
theorem p58 : POk Tryz.prog cx t58 := POk.next qsOk p57 (by kernel_rfl) run57
/- interleave/interleaveref18.Before, 3078 operations -/
def a58 : List T := [l94, (.int .i64 4)]
def r58 : T := (.agg [l68, (.int .i64 (.negSucc 0)), (.tree [] false), (.tree [l20, l16] false), (.tree [] false), (.tree [] false), l98])
theorem run58 : callP ((176, [(a57, r57), (a56, r56), (a55, r55), (a54, r54), (a53, r53), (a52, r52), (a51, r51), (a50, r50), (a49, r49)]) :: t49) ft 100000 176 a58 ⟨0, 0, []⟩ = some (r58, ⟨0, 0, []⟩) := by kernel_rfl
abbrev t59 : PTab := (176, [(a58, r58), (a57, r57), (a56, r56), (a55, r55), (a54, r54), (a53, r53), (a52, r52), (a51, r51), (a50, r50), (a49, r49)]) :: t49
theorem p59 : POk Tryz.prog cx t59 := POk.next qsOk p58 (by kernel_rfl) run58
/- interleave/interleaveref18.Before, 3848 operations -/
def a59 : List T := [l94, (.int .i64 5)]
def r59 : T := (.agg [l70, (.int .i64 (.negSucc 0)), (.tree [] false), (.tree [l20, l16] false), (.tree [] false), (.tree [] false), l99])
theorem run59 : callP ((176, [(a58, r58), (a57, r57), (a56, r56), (a55, r55), (a54, r54), (a53, r53), (a52, r52), (a51, r51), (a50, r50), (a49, r49)]) :: t49) ft 100000 176 a59 ⟨0, 0, []⟩ = some (r59, ⟨0, 0, []⟩) := by kernel_rfl
abbrev t60 : PTab := (176, [(a59, r59), (a58, r58), (a57, r57), (a56, r56), (a55, r55), (a54, r54), (a53, r53), (a52, r52), (a51, r51), (a50, r50), (a49, r49)]) :: t49
theorem p60 : POk Tryz.prog cx t60 := POk.next qsOk p59 (by kernel_rfl) run59
/- interleave/interleaveref18.Before, 4639 operations -/
def a60 : List T := [l94, (.int .i64 6)]
def r60 : T := (.agg [l68, (.int .i64 (.negSucc 0)), (.tree [] false), (.tree [l20, l16] false), (.tree [] false), (.tree [] false), l100])
theorem run60 : callP ((176, [(a59, r59), (a58, r58), (a57, r57), (a56, r56), (a55, r55), (a54, r54), (a53, r53), (a52, r52), (a51, r51), (a50, r50), (a49, r49)]) :: t49) ft 100000 176 a60 ⟨0, 0, []⟩ = some (r60, ⟨0, 0, []⟩) := by kernel_rfl
abbrev t61 : PTab := (176, [(a60, r60), (a59, r59), (a58, r58), (a57, r57), (a56, r56), (a55, r55), (a54, r54), (a53, r53), (a52, r52), (a51, r51), (a50, r50), (a49, r49)]) :: t49
theorem p61 : POk Tryz.prog cx t61 := POk.next qsOk p60 (by kernel_rfl) run60
/- interleave/interleaveref18.Before, 5430 operations -/
def a61 : List T := [l94, (.int .i64 7)]
def r61 : T := (.agg [l66, (.int .i64 (.negSucc 0)), (.tree [] false), (.tree [l20, l16] false), (.tree [] false), (.tree [] false), l95])
theorem run61 : callP ((176, [(a60, r60), (a59, r59), (a58, r58), (a57, r57), (a56, r56), (a55, r55), (a54, r54), (a53, r53), (a52, r52), (a51, r51), (a50, r50), (a49, r49)]) :: t49) ft 100000 176 a61 ⟨0, 0, []⟩ = some (r61, ⟨0, 0, []⟩) := by kernel_rfl
abbrev t62 : PTab := (176, [(a61, r61), (a60, r60), (a59, r59), (a58, r58), (a57, r57), (a56, r56), (a55, r55), (a54, r54), (a53, r53), (a52, r52), (a51, r51), (a50, r50), (a49, r49)]) :: t49
theorem p62 : POk Tryz.prog cx t62 := POk.next qsOk p61 (by kernel_rfl) run61
/- interleave/interleaveref18.Before, 6221 operations -/
def a62 : List T := [l94, (.int .i64 8)]
def r62 : T := (.agg [(.tree [l15, l15, l15] false), (.int .i64 (.negSucc 0)), (.tree [] false), (.tree [l20, l16] false), (.tree [] false), (.tree [] false), (.tree [(.int .i64 8), (.int .i64 0)] false)])
theorem run62 : callP ((176, [(a61, r61), (a60, r60), (a59, r59), (a58, r58), (a57, r57), (a56, r56), (a55, r55), (a54, r54), (a53, r53), (a52, r52), (a51, r51), (a50, r50), (a49, r49)]) :: t49) ft 100000 176 a62 ⟨0, 0, []⟩ = some (r62, ⟨0, 0, []⟩) := by kernel_rfl
abbrev t63 : PTab := (176, [(a62, r62), (a61, r61), (a60, r60), (a59, r59), (a58, r58), (a57, r57), (a56, r56), (a55, r55), (a54, r54), (a53, r53), (a52, r52), (a51, r51), (a50, r50), (a49, r49)]) :: t49
theorem p63 : POk Tryz.prog cx t63 := POk.next qsOk p62 (by kernel_rfl) run62
end Go.Proofs.YtemkchpdcgkeiaaGreatDoor
