/- Texts W20m to W20m. -/
import Derived.Test.YtmaeadedikngoaaGreatDoorA40
set_option linter.all false
set_option maxRecDepth 100000
set_option maxHeartbeats 8000000
namespace Go.Proofs.YtmaeadedikngoaaGreatDoor
noncomputable section
open Go Go.TI
attribute [-simp] List.map_take List.map_drop List.map_append fH fh ej Bool.not_or Bool.not_and
attribute [simp] fG fj
def I7:iq:=⟨Unit,λ_=>[],λ_=>True,λ_=> .bool true,λ_ _ _=>rfl⟩
def R8:I7.Ok Tryz.prog cx 12:=λ_ _=>N7
def W8{a:fN}(ht:a.p 12=some I7):rl Tryz.prog cx a 12 []=some (.bool true):=iv ht R8 () trivial
end
end Go.Proofs.YtmaeadedikngoaaGreatDoor
