/- Texts ARun to ARun. -/
import Derived.Test.YtmaeadedikngoaaGreatDoorA44
set_option linter.all false
set_option maxRecDepth 100000
set_option maxHeartbeats 8000000
namespace Go.Proofs.YtmaeadedikngoaaGreatDoor
noncomputable section
open Go Go.TI
def M5:kM Tryz.prog cx 12 [] (T.bool true):=xR (lx _ dC) (RG _ _ _ _ _ ab0)
end
end Go.Proofs.YtmaeadedikngoaaGreatDoor
