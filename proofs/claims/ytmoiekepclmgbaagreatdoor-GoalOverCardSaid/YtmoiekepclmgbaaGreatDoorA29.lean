/- ARunZ -/
import Derived.Test.YtmoiekepclmgbaaGreatDoorA28
set_option linter.all false
set_option maxRecDepth 100000
set_option maxHeartbeats 0
namespace Go.Proofs.YtmoiekepclmgbaaGreatDoor
noncomputable section
open Go Go.TI
def ag4:zG t6 ft 100000 14 [] ⟨0,0,[]⟩=some (.bool true,⟨0,0,[]⟩):=dU
def WZ:o6 Tryz.prog cx (zG t6 ft 100000):=KZ p6 LQ 100000
