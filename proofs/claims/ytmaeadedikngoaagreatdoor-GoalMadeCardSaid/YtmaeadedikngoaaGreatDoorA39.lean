/- Texts ARun to ARun. -/
import Derived.Test.YtmaeadedikngoaaGreatDoorA38
set_option linter.unusedVariables false
set_option linter.unusedSimpArgs false
set_option maxRecDepth 100000
set_option maxHeartbeats 8000000
namespace Go.Proofs.YtmaeadedikngoaaGreatDoor
noncomputable section
open Go Go.TI
theorem Ma:kO Tryz.prog cx 12 [] (T.bool true):=z9 (lI _ (by kernel_rfl)) (QE _ _ _ _ _ acZ)
end
end Go.Proofs.YtmaeadedikngoaaGreatDoor
