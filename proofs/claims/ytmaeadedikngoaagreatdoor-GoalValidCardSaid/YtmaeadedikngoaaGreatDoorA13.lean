/- Texts DFun to DFun. -/
import Derived.Test.YtmaeadedikngoaaGreatDoorA12
import Derived.Test.YtmaeadedikngoaaGreatDoorProg
set_option linter.unusedVariables false
set_option linter.unusedSimpArgs false
set_option linter.defProp false
set_option maxRecDepth 100000
set_option maxHeartbeats 8000000
namespace Go.Proofs.YtmaeadedikngoaaGreatDoor
noncomputable section
open Go Go.TI
def ei:Tryz.prog.follows .mixedOrders=true:=by kernel_rfl
def TJ:iH.Qa λb a=>TK Tryz.prog b a.cmp=some a:=by
 unfold iH;repeat' first|exact .nil|refine .node ?_ (by kernel_rfl) ?_
def eg:iM Tryz.prog cx:=⟨λb c a=>⟨_,TJ.find a⟩⟩
end
end Go.Proofs.YtmaeadedikngoaaGreatDoor
