/- Texts DFun to DFun. -/
import Derived.Test.YtmaeadedikngoaaGreatDoorA11
import Derived.Test.YtmaeadedikngoaaGreatDoorProg
set_option linter.all false
set_option maxRecDepth 100000
set_option maxHeartbeats 8000000
namespace Go.Proofs.YtmaeadedikngoaaGreatDoor
noncomputable section
open Go Go.TI
def fa:Tryz.prog.follows .mixedOrders=true:=dI
def Vk:ja.RC λb a=>Vl Tryz.prog b a.cmp=some a:=by
 unfold ja;repeat' first|exact .nil|refine .node ?_ dI ?_
def eQ:jg Tryz.prog cx:=⟨λb c a=>⟨_,Vk.find a⟩⟩
end
end Go.Proofs.YtmaeadedikngoaaGreatDoor
