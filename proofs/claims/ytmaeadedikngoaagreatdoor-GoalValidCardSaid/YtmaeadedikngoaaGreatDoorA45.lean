/- Texts ARun to ARun. -/
import Derived.Test.YtmaeadedikngoaaGreatDoorA44
set_option linter.unusedVariables false
set_option linter.unusedSimpArgs false
set_option linter.defProp false
set_option maxRecDepth 100000
set_option maxHeartbeats 8000000
namespace Go.Proofs.YtmaeadedikngoaaGreatDoor
noncomputable section
open Go Go.TI
def MU:kI Tryz.prog cx 12 [] (T.bool true):=xK (ll _ (by kernel_rfl)) (Rv _ _ _ _ _ abQ)
end
end Go.Proofs.YtmaeadedikngoaaGreatDoor
