/- Texts W20m to W20m. -/
import Derived.Test.YtmaeadedikngoaaGreatDoorA45
set_option linter.all false
set_option maxRecDepth 100000
set_option maxHeartbeats 8000000
namespace Go.Proofs.YtmaeadedikngoaaGreatDoor
noncomputable section
open Go Go.TI
attribute [-simp] List.map_take List.map_drop List.map_append fw eQ dZ Bool.not_or Bool.not_and
attribute [simp] fq eY
def If:gu:=⟨Unit,λ_=>[],λ_=>True,λ_=> .bool true,λ_ _ _=>rfl⟩
def QX:If.Ok Tryz.prog cx 12:=λ_ _=>M5
def VB{a:fy}(ht:a.p 12=some If):rl Tryz.prog cx a 12 []=some (.bool true):=gU ht QX () trivial
end
end Go.Proofs.YtmaeadedikngoaaGreatDoor
