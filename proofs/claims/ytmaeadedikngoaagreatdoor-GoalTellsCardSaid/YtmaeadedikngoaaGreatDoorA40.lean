/- Texts ARunZ to ARunZ. -/
import Derived.Test.YtmaeadedikngoaaGreatDoorA39
set_option linter.all false
set_option maxRecDepth 100000
set_option maxHeartbeats 8000000
namespace Go.Proofs.YtmaeadedikngoaaGreatDoor
noncomputable section
open Go Go.TI
def adJ:xp t6 ft 100000 12 [] ⟨0,0,[]⟩=some (.bool true,⟨0,0,[]⟩):=dI
def Tl:nL Tryz.prog cx (xp t6 ft 100000):=Ir p6 Ji 100000
end
end Go.Proofs.YtmaeadedikngoaaGreatDoor
