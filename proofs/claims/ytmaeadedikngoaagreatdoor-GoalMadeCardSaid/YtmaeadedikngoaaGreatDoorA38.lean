/- Texts ARunZ to ARunZ. -/
import Derived.Test.YtmaeadedikngoaaGreatDoorA37
set_option linter.unusedVariables false
set_option linter.unusedSimpArgs false
set_option maxRecDepth 100000
set_option maxHeartbeats 8000000
namespace Go.Proofs.YtmaeadedikngoaaGreatDoor
noncomputable section
open Go Go.TI
theorem acZ:we t6 ft 100000 12 [] ⟨0,0,[]⟩=some (.bool true,⟨0,0,[]⟩):=by kernel_rfl
theorem QE:mN Tryz.prog cx (we t6 ft 100000):=GG p6 HD 100000
end
end Go.Proofs.YtmaeadedikngoaaGreatDoor
