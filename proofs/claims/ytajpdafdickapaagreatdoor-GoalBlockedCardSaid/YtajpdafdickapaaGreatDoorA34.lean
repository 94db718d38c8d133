/- DReadBlocked -/
import Derived.Test.YtajpdafdickapaaGreatDoorA26
import Derived.Test.YtajpdafdickapaaGreatDoorA33
set_option linter.all false
set_option maxRecDepth 100000
set_option maxHeartbeats 8000000
namespace Go.Proofs.YtajpdafdickapaaGreatDoor
noncomputable section
open Go Go.TI
def YP(a:Int):Prop:=IntKind.min .u8<=a/\a<=IntKind.max .u8
def rd5:TI.Rd Tryz.prog 5 1 λb=>∃a:Int,b=(λa:Int=>[(T.int .u8) a]) a/\YP a:=Wp iE Q9 rfl rfl
def QC(a:List Int):Prop:=a.length*1<=140737488351232/\∀b∈a,YP b
def SN:TI.Rd Tryz.prog 22 1 λc=>∃a:List Int,c=(λa:List Int=>[(λb:List Int=>sl (b.map (T.int .u8))) a]) a/\QC a:=O0 iE Re rfl rfl Q9 rd5 J false dy λ_=>rfl
def abj(a:mZ):Prop:=QC a.program/\QC a.schedule/\QC a.Fj/\YP a.size/\YP a.vn
def aey:TI.Rd Tryz.prog 24 5 λg=>∃m:mZ,g=m.cs/\abj m:=by
 refine(MY iE Rc rfl rfl (n:=5) (.cons _ _ _ _ _ _ _ rfl SN (.cons _ _ _ _ _ _ _ rfl SN (.cons _ _ _ _ _ _ _ rfl SN (.cons _ _ _ _ _ _ _ rfl rd5 (.cons _ _ _ _ _ _ _ rfl rd5 (.nil _)))))) ?_).imp ?_
 ·intro g a;obtain⟨_,_,rfl,⟨o,rfl,h⟩,b⟩:=a.inv;obtain⟨_,_,rfl,⟨p,rfl,i⟩,c⟩:=b.inv;obtain⟨_,_,rfl,⟨q,rfl,j⟩,d⟩:=c.inv;obtain⟨_,_,rfl,⟨r,rfl,k⟩,e⟩:=d.inv;obtain⟨_,_,rfl,⟨s,rfl,l⟩,f⟩:=e.inv;have cn:=f.Gx;subst cn;rfl
 ·intro g a;obtain⟨_,_,rfl,⟨o,rfl,h⟩,b⟩:=a.inv;obtain⟨_,_,rfl,⟨p,rfl,i⟩,c⟩:=b.inv;obtain⟨_,_,rfl,⟨q,rfl,j⟩,d⟩:=c.inv;obtain⟨_,_,rfl,⟨r,rfl,k⟩,e⟩:=d.inv;obtain⟨_,_,rfl,⟨s,rfl,l⟩,f⟩:=e.inv;have cn:=f.Gx;subst cn;exact⟨⟨o,p,q,r,s⟩,rfl,h,i,j,k,l⟩
