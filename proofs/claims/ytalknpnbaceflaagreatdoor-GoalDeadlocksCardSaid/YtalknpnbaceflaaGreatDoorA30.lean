/- ARun -/
import Derived.Test.YtalknpnbaceflaaGreatDoorA29
set_option linter.all false
set_option maxRecDepth 100000
set_option maxHeartbeats 0
namespace Go.Proofs.YtalknpnbaceflaaGreatDoor
noncomputable section
open Go Go.TI
def SN:mM Tryz.prog cx 13 [] (T.ez true):=BH (mD _ dY) (XU _ _ _ _ _ ahN)
