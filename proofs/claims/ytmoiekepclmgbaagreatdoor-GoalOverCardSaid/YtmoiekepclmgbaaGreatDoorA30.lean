/- ARun -/
import Derived.Test.YtmoiekepclmgbaaGreatDoorA29
set_option linter.all false
set_option maxRecDepth 100000
set_option maxHeartbeats 0
namespace Go.Proofs.YtmoiekepclmgbaaGreatDoor
noncomputable section
open Go Go.TI
def RF:mp Tryz.prog cx 14 [] (T.bool true):=AV (mc _ dU) (WZ _ _ _ _ _ ag4)
