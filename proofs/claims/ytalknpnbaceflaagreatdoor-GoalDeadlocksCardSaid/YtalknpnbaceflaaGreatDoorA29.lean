/- ARunZ -/
import Derived.Test.YtalknpnbaceflaaGreatDoorA28
set_option linter.all false
set_option maxRecDepth 100000
set_option maxHeartbeats 0
namespace Go.Proofs.YtalknpnbaceflaaGreatDoor
noncomputable section
open Go Go.TI
def ahN:Ay t6 ft 100000 13 [] ⟨0,0,[]⟩=some (.ez true,⟨0,0,[]⟩):=dY
def XU:pL Tryz.prog cx (Ay t6 ft 100000):=LW p6 MO 100000
