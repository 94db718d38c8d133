/- Texts W20m to W20m. -/
import Derived.Test.YtmaeadedikngoaaGreatDoorA45
set_option linter.unusedVariables false
set_option linter.unusedSimpArgs false
set_option linter.defProp false
set_option maxRecDepth 100000
set_option maxHeartbeats 8000000
namespace Go.Proofs.YtmaeadedikngoaaGreatDoor
noncomputable section
open Go Go.TI
attribute [-simp] List.map_take List.map_drop List.map_append fj eG dY Bool.not_or Bool.not_and
attribute [simp] fh eJ
def H8:f7:=⟨Unit,λ_=>[],λ_=>True,λ_=> .bool true,λ_ _ _=>rfl⟩
def QM:H8.Ok Tryz.prog cx 12:=λ_ _=>MU
def Vq{a:fq}(ht:a.p 12=some H8):rl Tryz.prog cx a 12 []=some (.bool true):=gF ht QM () trivial
end
end Go.Proofs.YtmaeadedikngoaaGreatDoor
