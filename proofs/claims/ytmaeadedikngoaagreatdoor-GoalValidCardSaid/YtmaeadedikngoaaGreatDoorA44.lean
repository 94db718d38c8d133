/- Texts ARunZ to ARunZ. -/
import Derived.Test.YtmaeadedikngoaaGreatDoorA43
set_option linter.unusedVariables false
set_option linter.unusedSimpArgs false
set_option linter.defProp false
set_option maxRecDepth 100000
set_option maxHeartbeats 8000000
namespace Go.Proofs.YtmaeadedikngoaaGreatDoor
noncomputable section
open Go Go.TI
def abQ:wD t6 ft 100000 12 [] ⟨0,0,[]⟩=some (.bool true,⟨0,0,[]⟩):=by kernel_rfl
def Rv:mR Tryz.prog cx (wD t6 ft 100000):=Hm p6 Ia 100000
end
end Go.Proofs.YtmaeadedikngoaaGreatDoor
