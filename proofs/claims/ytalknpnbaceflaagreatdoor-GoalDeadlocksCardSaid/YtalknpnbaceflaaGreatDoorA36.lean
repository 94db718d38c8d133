/- DReadLost -/
import Derived.Test.YtalknpnbaceflaaGreatDoorA26
import Derived.Test.YtalknpnbaceflaaGreatDoorA35
set_option linter.all false
set_option maxRecDepth 100000
set_option maxHeartbeats 0
namespace Go.Proofs.YtalknpnbaceflaaGreatDoor
noncomputable section
open Go Go.TI
def VT(a:Int):Prop:=IntKind.min .u8<=a/\a<=IntKind.max .u8
def rd5:Rd Tryz.prog 5 1 λb=>∃a:Int,b=(λa:Int=>[(T.int .u8) a]) a/\VT a:=aad jl UM rfl rfl
def Nc(a:List Int):Prop:=a.length*1<=140737488351232/\∀b∈a,VT b
def Qx:Rd Tryz.prog 22 1 λc=>∃a:List Int,c=(λa:List Int=>[(λb:List Int=>sl (b.map (T.int .u8))) a]) a/\Nc a:=SC jl JC rfl rfl UM rd5 B false G λ_=>rfl
def WZ(a:nT):Prop:=Nc a.program/\Nc a.schedule/\Nc a.HK/\VT a.size/\VT a.xV
def dP:Rd Tryz.prog 24 5 λg=>∃m:nT,g=m.cs/\WZ m:=by
 refine(Qw jl JB rfl rfl (n:=5) (.cons _ _ _ _ _ _ _ rfl Qx (.cons _ _ _ _ _ _ _ rfl Qx (.cons _ _ _ _ _ _ _ rfl Qx (.cons _ _ _ _ _ _ _ rfl rd5 (.cons _ _ _ _ _ _ _ rfl rd5 (.nil _)))))) ?_).imp ?_
 ·intro g a;obtain⟨_,_,rfl,⟨o,rfl,h⟩,b⟩:=a.inv;obtain⟨_,_,rfl,⟨p,rfl,i⟩,c⟩:=b.inv;obtain⟨_,_,rfl,⟨q,rfl,j⟩,d⟩:=c.inv;obtain⟨_,_,rfl,⟨r,rfl,k⟩,e⟩:=d.inv;obtain⟨_,_,rfl,⟨s,rfl,l⟩,f⟩:=e.inv;have cn:=f.CV;subst cn;rfl
 ·intro g a;obtain⟨_,_,rfl,⟨o,rfl,h⟩,b⟩:=a.inv;obtain⟨_,_,rfl,⟨p,rfl,i⟩,c⟩:=b.inv;obtain⟨_,_,rfl,⟨q,rfl,j⟩,d⟩:=c.inv;obtain⟨_,_,rfl,⟨r,rfl,k⟩,e⟩:=d.inv;obtain⟨_,_,rfl,⟨s,rfl,l⟩,f⟩:=e.inv;have cn:=f.CV;subst cn;exact⟨⟨o,p,q,r,s⟩,rfl,h,i,j,k,l⟩
