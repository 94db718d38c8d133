/- Texts ARunZ to ARunZ. -/
import Derived.Test.YtmaeadedikngoaaGreatDoorA43
set_option linter.all false
set_option maxRecDepth 100000
set_option maxHeartbeats 8000000
namespace Go.Proofs.YtmaeadedikngoaaGreatDoor
noncomputable section
open Go Go.TI
def ab0:wL t6 ft 100000 12 [] ⟨0,0,[]⟩=some (.bool true,⟨0,0,[]⟩):=dC
def RG:mX Tryz.prog cx (wL t6 ft 100000):=Hw p6 Ih 100000
end
end Go.Proofs.YtmaeadedikngoaaGreatDoor
