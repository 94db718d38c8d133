/- Texts ARun to ARun. -/
import Derived.Test.YtmaeadedikngoaaGreatDoorA39
set_option linter.all false
set_option maxRecDepth 100000
set_option maxHeartbeats 8000000
namespace Go.Proofs.YtmaeadedikngoaaGreatDoor
noncomputable section
open Go Go.TI
def N7:kY Tryz.prog cx 12 [] (T.bool true):=yt (lN _ dK) (S8 _ _ _ _ _ adw)
end
end Go.Proofs.YtmaeadedikngoaaGreatDoor
