/- A part of the run. By program (mkrunp.py). -/
import Derived.Test.YtemkchpdcgkeiaaGreatDoorZRun4
set_option linter.unusedSimpArgs false
set_option linter.unusedVariables false
namespace Go.Proofs.YtemkchpdcgkeiaaGreatDoor
open Go Go.TI
set_option linter.unusedVariables false
set_option maxRecDepth 100000
/- interleave/interleaveref18.Before, 5111 operations -/
def a52 : List T := [l75, (.int .i64 7)]
def r52 : T := (.agg [l12, (.int .i64 (.negSucc 0)), (.tree [] false), l25, (.tree [(.int .i64 1)] false), (.tree [] false), l76])
theorem run52 : callP ((176, es52) :: t43) ft 100000 176 a52 ⟨0, 0, []⟩ = some (r52, ⟨0, 0, []⟩) := by kernel_rfl
abbrev es53 : List (List T × T) := (a52, r52) :: es52
abbrev t53 : PTab := (176, es53) :: t43
theorem p53 : POk Tryz.prog cx t53 := POk.next qsOk p52 (by kernel_rfl) run52
/- interleave/interleaveref18.Before, 5812 operations -/
def a53 : List T := [l75, (.int .i64 8)]
def r53 : T := (.agg [l12, (.int .i64 (.negSucc 0)), (.tree [] false), (.tree [l20, l13] false), (.tree [(.int .i64 1)] false), (.tree [] false), (.tree [(.int .i64 8), (.int .i64 0)] false)])
theorem run53 : callP ((176, es53) :: t43) ft 100000 176 a53 ⟨0, 0, []⟩ = some (r53, ⟨0, 0, []⟩) := by kernel_rfl
abbrev es54 : List (List T × T) := (a53, r53) :: es53
abbrev t54 : PTab := (176, es54) :: t43
theorem p54 : POk Tryz.prog cx t54 := POk.next qsOk p53 (by kernel_rfl) run53
/- interleave/interleaveref20.List, 104141 operations -/
def a54 : List T := [l75]
def r54 : T := (.tree [l88, l89, l90] false)
theorem run54 : callP ((20, []) :: t54) ft 100000 20 a54 ⟨0, 0, []⟩ = some (r54, ⟨0, 0, []⟩) := by kernel_rfl
abbrev es55 : List (List T × T) := (a54, r54) :: []
abbrev t55 : PTab := (20, es55) :: t54
theorem p55 : POk Tryz.prog cx t55 := POk.next qsOk (POk.new (f := 20) p54) (by kernel_rfl) run54
/- (interleave/goal.analysis).block, 48 operations -/
def a55 : List T := [l93, (.int .i64 3), (.int .i64 4)]
def r55 : T := (.bool true)
theorem run55 : callP ((101, []) :: t55) ft 100000 101 a55 ⟨0, 0, []⟩ = some (r55, ⟨0, 0, []⟩) := by kernel_rfl
abbrev es56 : List (List T × T) := (a55, r55) :: []
abbrev t56 : PTab := (101, es56) :: t55
theorem p56 : POk Tryz.prog cx t56 := POk.next qsOk (POk.new (f := 101) p55) (by kernel_rfl) run55
/- (interleave/goal.analysis).block, 64 operations -/
def a56 : List T := [l93, (.int .i64 3), (.int .i64 5)]
def r56 : T := (.bool true)
theorem run56 : callP ((101, es56) :: t55) ft 100000 101 a56 ⟨0, 0, []⟩ = some (r56, ⟨0, 0, []⟩) := by kernel_rfl
abbrev es57 : List (List T × T) := (a56, r56) :: es56
abbrev t57 : PTab := (101, es57) :: t55
theorem p57 : POk Tryz.prog cx t57 := POk.next qsOk p56 (by kernel_rfl) run56
/- (interleave/goal.analysis).block, 80 operations -/
def a57 : List T := [l93, (.int .i64 3), (.int .i64 6)]
def r57 : T := (.bool true)
theorem run57 : callP ((101, es57) :: t55) ft 100000 101 a57 ⟨0, 0, []⟩ = some (r57, ⟨0, 0, []⟩) := by kernel_rfl
abbrev es58 : List (List T × T) := (a57, r57) :: es57
abbrev t58 : PTab := (101, es58) :: t55
theorem p58 : POk Tryz.prog cx t58 := POk.next qsOk p57 (by kernel_rfl) run57
/- (interleave/goal.analysis).block, 96 operations -/
def a58 : List T := [l93, (.int .i64 3), (.int .i64 7)]
def r58 : T := (.bool true)
theorem run58 : callP ((101, es58) :: t55) ft 100000 101 a58 ⟨0, 0, []⟩ = some (r58, ⟨0, 0, []⟩) := by kernel_rfl
abbrev es59 : List (List T × T) := (a58, r58) :: es58
abbrev t59 : PTab := (101, es59) :: t55
theorem p59 : POk Tryz.prog cx t59 := POk.next qsOk p58 (by kernel_rfl) run58
/- (interleave/goal.analysis).block, 48 operations -/
def a59 : List T := [l93, (.int .i64 4), (.int .i64 5)]
def r59 : T := (.bool true)
theorem run59 : callP ((101, es59) :: t55) ft 100000 101 a59 ⟨0, 0, []⟩ = some (r59, ⟨0, 0, []⟩) := by kernel_rfl
abbrev es60 : List (List T × T) := (a59, r59) :: es59
abbrev t60 : PTab := (101, es60) :: t55
theorem p60 : POk Tryz.prog cx t60 := POk.next qsOk p59 (by kernel_rfl) run59
/- (interleave/goal.analysis).block, 64 operations -/
def a60 : List T := [l93, (.int .i64 4), (.int .i64 6)]
def r60 : T := (.bool true)
theorem run60 : callP ((101, es60) :: t55) ft 100000 101 a60 ⟨0, 0, []⟩ = some (r60, ⟨0, 0, []⟩) := by kernel_rfl
abbrev es61 : List (List T × T) := (a60, r60) :: es60
abbrev t61 : PTab := (101, es61) :: t55
theorem p61 : POk Tryz.prog cx t61 := POk.next qsOk p60 (by kernel_rfl) run60
/- (interleave/goal.analysis).block, 80 operations -/
def a61 : List T := [l93, (.int .i64 4), (.int .i64 7)]
def r61 : T := (.bool true)
theorem run61 : callP ((101, es61) :: t55) ft 100000 101 a61 ⟨0, 0, []⟩ = some (r61, ⟨0, 0, []⟩) := by kernel_rfl
abbrev es62 : List (List T × T) := (a61, r61) :: es61
abbrev t62 : PTab := (101, es62) :: t55
theorem p62 : POk Tryz.prog cx t62 := POk.next qsOk p61 (by kernel_rfl) run61
/- (interleave/goal.analysis).block, 48 operations -/
def a62 : List T := [l93, (.int .i64 5), (.int .i64 6)]
def r62 : T := (.bool true)
theorem run62 : callP ((101, es62) :: t55) ft 100000 101 a62 ⟨0, 0, []⟩ = some (r62, ⟨0, 0, []⟩) := by kernel_rfl
abbrev es63 : List (List T × T) := (a62, r62) :: es62
abbrev t63 : PTab := (101, es63) :: t55
theorem p63 : POk Tryz.prog cx t63 := POk.next qsOk p62 (by kernel_rfl) run62
/- (interleave/goal.analysis).block, 64 operations -/
def a63 : List T := [l93, (.int .i64 5), (.int .i64 7)]
def r63 : T := (.bool true)
theorem run63 : callP ((101, es63) :: t55) ft 100000 101 a63 ⟨0, 0, []⟩ = some (r63, ⟨0, 0, []⟩) := by kernel_rfl
abbrev es64 : List (List T × T) := (a63, r63) :: es63
abbrev t64 : PTab := (101, es64) :: t55
theorem p64 : POk Tryz.prog cx t64 := POk.next qsOk p63 (by kernel_rfl) run63
/- (interleave/goal.analysis).block, 48 operations -/
def a64 : List T := [l93, (.int .i64 6), (.int .i64 7)]
def r64 : T := (.bool true)
theorem run64 : callP ((101, es64) :: t55) ft 100000 101 a64 ⟨0, 0, []⟩ = some (r64, ⟨0, 0, []⟩) := by kernel_rfl
abbrev es65 : List (List T × T) := (a64, r64) :: es64
abbrev t65 : PTab := (101, es65) :: t55
theorem p65 : POk Tryz.prog cx t65 := POk.next qsOk p64 (by kernel_rfl) run64
/- (interleave/goal.analysis).block, 48 operations -/
def a65 : List T := [l93, (.int .i64 7), (.int .i64 8)]
def r65 : T := (.bool true)
theorem run65 : callP ((101, es65) :: t55) ft 100000 101 a65 ⟨0, 0, []⟩ = some (r65, ⟨0, 0, []⟩) := by kernel_rfl
abbrev es66 : List (List T × T) := (a65, r65) :: es65
abbrev t66 : PTab := (101, es66) :: t55
theorem p66 : POk Tryz.prog cx t66 := POk.next qsOk p65 (by kernel_rfl) run65
end Go.Proofs.YtemkchpdcgkeiaaGreatDoor
