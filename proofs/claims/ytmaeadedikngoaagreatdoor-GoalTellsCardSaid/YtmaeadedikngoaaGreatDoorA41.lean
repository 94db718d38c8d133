/- Texts ARun to ARun. -/
import Derived.Test.YtmaeadedikngoaaGreatDoorA40
set_option linter.all false
set_option maxRecDepth 100000
set_option maxHeartbeats 8000000
namespace Go.Proofs.YtmaeadedikngoaaGreatDoor
noncomputable section
open Go Go.TI
def Oi:lr Tryz.prog cx 12 [] (T.bool true):=yw (lZ _ dI) (Tl _ _ _ _ _ adJ)
end
end Go.Proofs.YtmaeadedikngoaaGreatDoor
