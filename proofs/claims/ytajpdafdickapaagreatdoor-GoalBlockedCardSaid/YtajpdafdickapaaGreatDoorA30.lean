/- ARun -/
import Derived.Test.YtajpdafdickapaaGreatDoorA29
set_option linter.all false
set_option maxRecDepth 100000
set_option maxHeartbeats 8000000
namespace Go.Proofs.YtajpdafdickapaaGreatDoor
noncomputable section
open Go Go.TI
def Pe:lh Tryz.prog cx 10 [] (T.bool true):=zf (ls _ dG) (Ua _ _ _ _ _ aeq)
