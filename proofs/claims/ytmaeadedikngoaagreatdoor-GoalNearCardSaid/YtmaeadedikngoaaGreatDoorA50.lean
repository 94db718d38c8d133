/- Texts DReadNear to DReadNear. -/
import Derived.Test.YtmaeadedikngoaaGreatDoorA38
import Derived.Test.YtmaeadedikngoaaGreatDoorA49
set_option linter.all false
set_option maxRecDepth 100000
set_option maxHeartbeats 8000000
namespace Go.Proofs.YtmaeadedikngoaaGreatDoor
noncomputable section
open Go Go.TI
def Wf(a:Int):Prop:=IntKind.min .u8<=a/\a<=IntKind.max .u8
def SI:Rd Tryz.prog 5 1 λb=>∃a:Int,b=(λa:Int=>[(T.int .u8) a]) a/\Wf a:=Uc ej Aq rfl rfl
def Oh(a:List Int):Prop:=a.length*1<=140737488351232/\∀b∈a,Wf b
def Qz:Rd Tryz.prog 22 1 λc=>∃a:List Int,c=(λa:List Int=>[(λb:List Int=>sl (b.map (T.int .u8))) a]) a/\Oh a:=MY ej OX rfl rfl Aq SI dq false dt λ_=>rfl
def Y0(a:mc):Prop:=Oh a.program/\Oh a.schedule/\Oh a.Dg/\Wf a.size/\Wf a.uy
def ab8:Rd Tryz.prog 24 5 λg=>∃m:mc,g=m.cs/\Y0 m:=by
 refine(K1 ej OW rfl rfl (n:=5) (.cons _ _ _ _ _ _ _ rfl Qz (.cons _ _ _ _ _ _ _ rfl Qz (.cons _ _ _ _ _ _ _ rfl Qz (.cons _ _ _ _ _ _ _ rfl SI (.cons _ _ _ _ _ _ _ rfl SI (.nil _)))))) ?_).imp ?_
 ·intro g a;obtain⟨_,_,rfl,⟨o,rfl,h⟩,b⟩:=a.inv;obtain⟨_,_,rfl,⟨p,rfl,i⟩,c⟩:=b.inv;obtain⟨_,_,rfl,⟨q,rfl,j⟩,d⟩:=c.inv;obtain⟨_,_,rfl,⟨r,rfl,k⟩,e⟩:=d.inv;obtain⟨_,_,rfl,⟨s,rfl,l⟩,f⟩:=e.inv;have cn:=f.Eq;subst cn;rfl
 ·intro g a;obtain⟨_,_,rfl,⟨o,rfl,h⟩,b⟩:=a.inv;obtain⟨_,_,rfl,⟨p,rfl,i⟩,c⟩:=b.inv;obtain⟨_,_,rfl,⟨q,rfl,j⟩,d⟩:=c.inv;obtain⟨_,_,rfl,⟨r,rfl,k⟩,e⟩:=d.inv;obtain⟨_,_,rfl,⟨s,rfl,l⟩,f⟩:=e.inv;have cn:=f.Eq;subst cn;exact⟨⟨o,p,q,r,s⟩,rfl,h,i,j,k,l⟩
end
end Go.Proofs.YtmaeadedikngoaaGreatDoor
