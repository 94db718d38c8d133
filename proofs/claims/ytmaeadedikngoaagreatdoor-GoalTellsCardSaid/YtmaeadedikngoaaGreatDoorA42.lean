/- Texts W20m to W20m. -/
import Derived.Test.YtmaeadedikngoaaGreatDoorA41
set_option linter.all false
set_option maxRecDepth 100000
set_option maxHeartbeats 8000000
namespace Go.Proofs.YtmaeadedikngoaaGreatDoor
noncomputable section
open Go Go.TI
attribute [-simp] List.map_take List.map_drop List.map_append fG fg ei Bool.not_or Bool.not_and
attribute [simp] fF fh
def Jg:hU:=⟨Unit,λ_=>[],λ_=>True,λ_=> .bool true,λ_ _ _=>rfl⟩
def So:Jg.Ok Tryz.prog cx 12:=λ_ _=>Oi
def Xk{a:fJ}(ht:a.p 12=some Jg):rl Tryz.prog cx a 12 []=some (.bool true):=im ht So () trivial
end
end Go.Proofs.YtmaeadedikngoaaGreatDoor
