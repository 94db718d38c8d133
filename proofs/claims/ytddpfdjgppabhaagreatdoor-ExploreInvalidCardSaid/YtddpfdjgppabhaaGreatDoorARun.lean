/- Closed calls, carried out. By program (mkawake.py). -/
import Derived.Test.YtddpfdjgppabhaaGreatDoorACalls
set_option linter.unusedSimpArgs false
set_option linter.unusedVariables false
namespace Go.Proofs.YtddpfdjgppabhaaGreatDoor
open Go Go.TI
set_option linter.unusedVariables false
set_option maxRecDepth 100000
/- interleave/interleavelaw10.awake, 22847 operations -/
theorem run9_0 : callQ 100000 9 [] ⟨0, 0, []⟩ = some ((T.bool true), ⟨0, 0, []⟩) := by kernel_rfl
theorem pure9_0 : PureAt Tryz.prog cx 9 [] (T.bool true) := pure_of (lowBs_low _ (by kernel_rfl)) (callOk 100000 _ _ _ _ _ run9_0)
/- math/bits.Len, 18 operations -/
theorem run78_1 : callQ 100000 78 [(T.int .u64 0)] ⟨0, 0, []⟩ = some ((T.int .i64 0), ⟨0, 0, []⟩) := by kernel_rfl
theorem pure78_1 : PureAt Tryz.prog cx 78 [(T.int .u64 0)] (T.int .i64 0) := pure_of (lowBs_low _ (by kernel_rfl)) (callOk 100000 _ _ _ _ _ run78_1)
end Go.Proofs.YtddpfdjgppabhaaGreatDoor
