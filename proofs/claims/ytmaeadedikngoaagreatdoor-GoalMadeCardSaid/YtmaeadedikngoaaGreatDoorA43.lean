/- Texts DRead to DRead. -/
import Derived.Test.YtmaeadedikngoaaGreatDoorA11
import Derived.Test.YtmaeadedikngoaaGreatDoorA42
set_option linter.unusedVariables false
set_option linter.unusedSimpArgs false
set_option maxRecDepth 100000
set_option maxHeartbeats 8000000
namespace Go.Proofs.YtmaeadedikngoaaGreatDoor
noncomputable section
open Go Go.TI
def ok5(a:Int):Prop:=IntKind.min .u8<=a/\a<=IntKind.max .u8
theorem rd5:Rd Tryz.prog 5 1 λb=>∃a:Int,b=(λa:Int=>[(T.int .u8) a]) a/\ok5 a:=TN dU Gx rfl rfl
def adi(a:List Int):Prop:=a.length*1<=140737488351232/\∀b∈a,ok5 b
theorem X8:Rd Tryz.prog 22 1 λc=>∃a:List Int,c=(λa:List Int=>[(λb:List Int=>sl (b.map (T.int .u8))) a]) a/\adi a:=L4 dU Iy rfl rfl Gx rd5 (by omega) false (by simp) λ_=>rfl
end
end Go.Proofs.YtmaeadedikngoaaGreatDoor
