/- Texts DFun to DFun. -/
import Derived.Test.YtmaeadedikngoaaGreatDoorA11
import Derived.Test.YtmaeadedikngoaaGreatDoorProg
set_option linter.all false
set_option maxRecDepth 100000
set_option maxHeartbeats 8000000
namespace Go.Proofs.YtmaeadedikngoaaGreatDoor
noncomputable section
open Go Go.TI
def fc:Tryz.prog.follows .mixedOrders=true:=dK
def U2:iZ.Rn λb a=>U3 Tryz.prog b a.cmp=some a:=by
 unfold iZ;repeat' first|exact .nil|refine .node ?_ dK ?_
def fa:jd Tryz.prog cx:=⟨λb c a=>⟨_,U2.find a⟩⟩
end
end Go.Proofs.YtmaeadedikngoaaGreatDoor
