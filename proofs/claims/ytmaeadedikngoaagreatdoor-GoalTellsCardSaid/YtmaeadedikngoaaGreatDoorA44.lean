/- Texts X14 to X14. -/
import Derived.Test.YtmaeadedikngoaaGreatDoorA43
set_option linter.all false
set_option maxRecDepth 100000
set_option maxHeartbeats 8000000
namespace Go.Proofs.YtmaeadedikngoaaGreatDoor
noncomputable section
open Go Go.TI
attribute [-simp] List.map_take List.map_drop List.map_append fG fg ei Bool.not_or Bool.not_and
attribute [simp] fF fh
def KW:hU:=⟨mD,λa=>[a.t],Rg,λ_=> .bool true,λ_ _ _=>rfl⟩
def VW:KW.Ok Tryz.prog cx 3:=by
 refine iv (tb:=⟨pt [(8,OS.jv),(10,zG),(11,wv),(9,zv),(12,Jg)],ht []⟩) fa eQ (iR 15 [(2,[(1,2)])] Tryz.func3) (λf=>1) (by simp[KW]) (by simp[KW,Tryz.f3]) ?_;rintro(e:mD) c g a;simp[KW]at a|-;obtain⟨_,⟨h,rfl,d⟩,b⟩:=OS.use e c;simp[Tryz.f3,a,b,Xf,Ts,Xd,d,Xk]
end
end Go.Proofs.YtmaeadedikngoaaGreatDoor
