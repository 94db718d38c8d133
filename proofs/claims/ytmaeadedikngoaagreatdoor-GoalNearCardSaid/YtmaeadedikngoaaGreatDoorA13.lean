/- Texts DFun to DFun. -/
import Derived.Test.YtmaeadedikngoaaGreatDoorA12
import Derived.Test.YtmaeadedikngoaaGreatDoorProg
set_option linter.all false
set_option maxRecDepth 100000
set_option maxHeartbeats 8000000
namespace Go.Proofs.YtmaeadedikngoaaGreatDoor
noncomputable section
open Go Go.TI
def ew:Tryz.prog.follows .mixedOrders=true:=dC
def TU:iG.Qk λb a=>TV Tryz.prog b a.cmp=some a:=by
 unfold iG;repeat' first|exact .nil|refine .node ?_ dC ?_
def ej:iP Tryz.prog cx:=⟨λb c a=>⟨_,TU.find a⟩⟩
end
end Go.Proofs.YtmaeadedikngoaaGreatDoor
