/- ARunZ -/
import Derived.Test.YtajpdafdickapaaGreatDoorA28
set_option linter.all false
set_option maxRecDepth 100000
set_option maxHeartbeats 8000000
namespace Go.Proofs.YtajpdafdickapaaGreatDoor
noncomputable section
open Go Go.TI
def aeq:xY t6 ft 100000 10 [] ⟨0,0,[]⟩=some (.bool true,⟨0,0,[]⟩):=dG
def Ua:nR Tryz.prog cx (xY t6 ft 100000):=I9 p6 JT 100000
