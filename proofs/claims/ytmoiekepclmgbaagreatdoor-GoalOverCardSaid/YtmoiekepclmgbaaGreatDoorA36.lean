/- DReadOver -/
import Derived.Test.YtmoiekepclmgbaaGreatDoorA26
import Derived.Test.YtmoiekepclmgbaaGreatDoorA35
set_option linter.all false
set_option maxRecDepth 100000
set_option maxHeartbeats 0
namespace Go.Proofs.YtmoiekepclmgbaaGreatDoor
noncomputable section
open Go Go.TI
def Yt(a:Int):Prop:=IntKind.min .u8<=a/\a<=IntKind.max .u8
def rd5:Rd Tryz.prog 5 1 λb=>∃a:Int,b=(λa:Int=>[(T.int .u8) a]) a/\Yt a:=Rv iT TU rfl rfl
def Qa(a:List Int):Prop:=a.length*1<=140737488351232/\∀b∈a,Yt b
def Vx:Rd Tryz.prog 22 1 λc=>∃a:List Int,c=(λa:List Int=>[(λb:List Int=>sl (b.map (T.int .u8))) a]) a/\Qa a:=Ru iT TX rfl rfl TU rd5 D false Y λ_=>rfl
def ZY(a:nj):Prop:=Qa a.program/\Qa a.schedule/\Qa a.GL/\Yt a.size/\Yt a.xn
def adr:Rd Tryz.prog 24 5 λg=>∃m:nj,g=m.cs/\ZY m:=by
 refine(Pq iT MV rfl rfl (n:=5) (.cons _ _ _ _ _ _ _ rfl Vx (.cons _ _ _ _ _ _ _ rfl Vx (.cons _ _ _ _ _ _ _ rfl Vx (.cons _ _ _ _ _ _ _ rfl rd5 (.cons _ _ _ _ _ _ _ rfl rd5 (.nil _)))))) ?_).imp ?_
 ·intro g a;obtain⟨_,_,rfl,⟨o,rfl,h⟩,b⟩:=a.inv;obtain⟨_,_,rfl,⟨p,rfl,i⟩,c⟩:=b.inv;obtain⟨_,_,rfl,⟨q,rfl,j⟩,d⟩:=c.inv;obtain⟨_,_,rfl,⟨r,rfl,k⟩,e⟩:=d.inv;obtain⟨_,_,rfl,⟨s,rfl,l⟩,f⟩:=e.inv;have cn:=f.ES;subst cn;rfl
 ·intro g a;obtain⟨_,_,rfl,⟨o,rfl,h⟩,b⟩:=a.inv;obtain⟨_,_,rfl,⟨p,rfl,i⟩,c⟩:=b.inv;obtain⟨_,_,rfl,⟨q,rfl,j⟩,d⟩:=c.inv;obtain⟨_,_,rfl,⟨r,rfl,k⟩,e⟩:=d.inv;obtain⟨_,_,rfl,⟨s,rfl,l⟩,f⟩:=e.inv;have cn:=f.ES;subst cn;exact⟨⟨o,p,q,r,s⟩,rfl,h,i,j,k,l⟩
def ZX(a:Int):Prop:=IntKind.min .u16<=a/\a<=IntKind.max .u16
def ahc:Rd Tryz.prog 67 1 λb=>∃a:Int,b=(λa:Int=>[(T.int .u16) a]) a/\ZX a:=Rv iT TS rfl rfl
