/- Texts ARunZ to ARunZ. -/
import Derived.Test.YtmaeadedikngoaaGreatDoorA38
set_option linter.all false
set_option maxRecDepth 100000
set_option maxHeartbeats 8000000
namespace Go.Proofs.YtmaeadedikngoaaGreatDoor
noncomputable section
open Go Go.TI
def adw:xn t6 ft 100000 12 [] ⟨0,0,[]⟩=some (.bool true,⟨0,0,[]⟩):=dK
def S8:nH Tryz.prog cx (xn t6 ft 100000):=Il p6 I9 100000
end
end Go.Proofs.YtmaeadedikngoaaGreatDoor
