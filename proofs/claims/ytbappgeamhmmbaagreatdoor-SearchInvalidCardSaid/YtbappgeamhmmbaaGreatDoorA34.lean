/- ARunZ -/
import Derived.Test.YtbappgeamhmmbaaGreatDoorA33
set_option linter.all false
set_option maxRecDepth 100000
set_option maxHeartbeats 0
namespace Go.Proofs.YtbappgeamhmmbaaGreatDoor
noncomputable section
open Go Go.TI
def aeF:vx t7 ft 100000 7 [] ⟨0,0,[]⟩=some (.bool true,⟨0,0,[]⟩):=dz
def RM:mU Tryz.prog cx (vx t7 ft 100000):=Hn p7 F1 100000
