/- Texts DReadTells to DReadTells. -/
import Derived.Test.YtmaeadedikngoaaGreatDoorA33
import Derived.Test.YtmaeadedikngoaaGreatDoorA46
set_option linter.all false
set_option maxRecDepth 100000
set_option maxHeartbeats 8000000
namespace Go.Proofs.YtmaeadedikngoaaGreatDoor
noncomputable section
open Go Go.TI
def X2(a:Int):Prop:=IntKind.min .u8<=a/\a<=IntKind.max .u8
def rd5:Rd Tryz.prog 5 1 λb=>∃a:Int,b=(λa:Int=>[(T.int .u8) a]) a/\X2 a:=VD eQ Ql rfl rfl
def PD(a:List Int):Prop:=a.length*1<=140737488351232/\∀b∈a,X2 b
def VF:Rd Tryz.prog 22 1 λc=>∃a:List Int,c=(λa:List Int=>[(λb:List Int=>sl (b.map (T.int .u8))) a]) a/\PD a:=Ob eQ WU rfl rfl Ql rd5 dz false dA λ_=>rfl
def aay(a:mD):Prop:=PD a.program/\PD a.schedule/\PD a.Eo/\X2 a.size/\X2 a.uZ
def adR:Rd Tryz.prog 24 5 λg=>∃m:mD,g=m.cs/\aay m:=by
 refine(Mg eQ Qp rfl rfl (n:=5) (.cons _ _ _ _ _ _ _ rfl VF (.cons _ _ _ _ _ _ _ rfl VF (.cons _ _ _ _ _ _ _ rfl VF (.cons _ _ _ _ _ _ _ rfl rd5 (.cons _ _ _ _ _ _ _ rfl rd5 (.nil _)))))) ?_).imp ?_
 ·intro g a;obtain⟨_,_,rfl,⟨o,rfl,h⟩,b⟩:=a.inv;obtain⟨_,_,rfl,⟨p,rfl,i⟩,c⟩:=b.inv;obtain⟨_,_,rfl,⟨q,rfl,j⟩,d⟩:=c.inv;obtain⟨_,_,rfl,⟨r,rfl,k⟩,e⟩:=d.inv;obtain⟨_,_,rfl,⟨s,rfl,l⟩,f⟩:=e.inv;have cn:=f.FD;subst cn;rfl
 ·intro g a;obtain⟨_,_,rfl,⟨o,rfl,h⟩,b⟩:=a.inv;obtain⟨_,_,rfl,⟨p,rfl,i⟩,c⟩:=b.inv;obtain⟨_,_,rfl,⟨q,rfl,j⟩,d⟩:=c.inv;obtain⟨_,_,rfl,⟨r,rfl,k⟩,e⟩:=d.inv;obtain⟨_,_,rfl,⟨s,rfl,l⟩,f⟩:=e.inv;have cn:=f.FD;subst cn;exact⟨⟨o,p,q,r,s⟩,rfl,h,i,j,k,l⟩
end
end Go.Proofs.YtmaeadedikngoaaGreatDoor
