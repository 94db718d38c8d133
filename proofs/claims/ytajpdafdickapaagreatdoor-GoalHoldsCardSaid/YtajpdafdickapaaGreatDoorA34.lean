/- DReadHolds -/
import Derived.Test.YtajpdafdickapaaGreatDoorA26
import Derived.Test.YtajpdafdickapaaGreatDoorA33
set_option linter.all false
set_option maxRecDepth 100000
set_option maxHeartbeats 8000000
namespace Go.Proofs.YtajpdafdickapaaGreatDoor
noncomputable section
open Go Go.TI
def ZH(a:Int):Prop:=IntKind.min .u8<=a/\a<=IntKind.max .u8
def rd5:TI.Rd Tryz.prog 5 1 λb=>∃a:Int,b=(λa:Int=>[(T.int .u8) a]) a/\ZH a:=PK iB RT rfl rfl
def Ri(a:List Int):Prop:=a.length*1<=140737488351232/\∀b∈a,ZH b
def TV:TI.Rd Tryz.prog 22 1 λc=>∃a:List Int,c=(λa:List Int=>[(λb:List Int=>sl (b.map (T.int .u8))) a]) a/\Ri a:=PI iB RZ rfl rfl RT rd5 J false dy λ_=>rfl
def ab6(a:ng):Prop:=Ri a.program/\Ri a.schedule/\Ri a.Fq/\ZH a.size/\ZH a.vL
def afp:TI.Rd Tryz.prog 24 5 λg=>∃m:ng,g=m.cs/\ab6 m:=by
 refine(Nz iB RY rfl rfl (n:=5) (.cons _ _ _ _ _ _ _ rfl TV (.cons _ _ _ _ _ _ _ rfl TV (.cons _ _ _ _ _ _ _ rfl TV (.cons _ _ _ _ _ _ _ rfl rd5 (.cons _ _ _ _ _ _ _ rfl rd5 (.nil _)))))) ?_).imp ?_
 ·intro g a;obtain⟨_,_,rfl,⟨o,rfl,h⟩,b⟩:=a.inv;obtain⟨_,_,rfl,⟨p,rfl,i⟩,c⟩:=b.inv;obtain⟨_,_,rfl,⟨q,rfl,j⟩,d⟩:=c.inv;obtain⟨_,_,rfl,⟨r,rfl,k⟩,e⟩:=d.inv;obtain⟨_,_,rfl,⟨s,rfl,l⟩,f⟩:=e.inv;have cn:=f.GS;subst cn;rfl
 ·intro g a;obtain⟨_,_,rfl,⟨o,rfl,h⟩,b⟩:=a.inv;obtain⟨_,_,rfl,⟨p,rfl,i⟩,c⟩:=b.inv;obtain⟨_,_,rfl,⟨q,rfl,j⟩,d⟩:=c.inv;obtain⟨_,_,rfl,⟨r,rfl,k⟩,e⟩:=d.inv;obtain⟨_,_,rfl,⟨s,rfl,l⟩,f⟩:=e.inv;have cn:=f.GS;subst cn;exact⟨⟨o,p,q,r,s⟩,rfl,h,i,j,k,l⟩
def X0(a:Int):Prop:=IntKind.min .u16<=a/\a<=IntKind.max .u16
def afo:TI.Rd Tryz.prog 25 1 λb=>∃a:Int,b=(λa:Int=>[(T.int .u16) a]) a/\X0 a:=PK iB RX rfl rfl
