/- ARun -/
import Derived.Test.YtbappgeamhmmbaaGreatDoorA34
set_option linter.all false
set_option maxRecDepth 100000
set_option maxHeartbeats 0
namespace Go.Proofs.YtbappgeamhmmbaaGreatDoor
noncomputable section
open Go Go.TI
def QD:kH Tryz.prog cx 7 [] (T.bool true):=yj (lr _ dz) (RM _ _ _ _ _ aeF)
