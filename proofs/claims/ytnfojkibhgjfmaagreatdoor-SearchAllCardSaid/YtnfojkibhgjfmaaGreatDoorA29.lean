import Derived.Test.YtnfojkibhgjfmaaGreatDoorA19
import Derived.Test.YtnfojkibhgjfmaaGreatDoorA28
set_option linter.all false
set_option maxRecDepth 100000
set_option maxHeartbeats 0
namespace Go.Proofs.YtnfojkibhgjfmaaGreatDoor
noncomputable section
open Go Go.TI
def ok5(a:Int):Prop:=IntKind.min .u8<=a/\a<=IntKind.max .u8
def rd5:Rd Tryz.prog 5 1 λb=>∃a:Int,b=(λa:Int=>[(T.int .u8) a]) a/\ok5 a:=T3 iX EW rfl rfl
def Su(a:List Int):Prop:=a.length*1<=140737488351232/\∀b∈a,ok5 b
def abF:Rd Tryz.prog 22 1 λc=>∃a:List Int,c=(λa:List Int=>[(λb:List Int=>sl (b.map (T.int .u8))) a]) a/\Su a:=T2 iX Ei rfl rfl EW rd5 G false V λ_=>rfl
def acd(a:oe):Prop:=Su a.program/\Su a.schedule/\Su a.PR/\ok5 a.size/\ok5 a.AV
def afF:Rd Tryz.prog 24 5 λg=>∃m:oe,g=m.cs/\acd m:=by refine(RD iX Pa rfl rfl (n:=5) (.cons _ _ _ _ _ _ _ rfl abF (.cons _ _ _ _ _ _ _ rfl abF (.cons _ _ _ _ _ _ _ rfl abF (.cons _ _ _ _ _ _ _ rfl rd5 (.cons _ _ _ _ _ _ _ rfl rd5 (.nil _)))))) ?_).imp ?_;intro g a;obtain⟨_,_,rfl,⟨o,rfl,h⟩,b⟩:=a.inv;obtain⟨_,_,rfl,⟨p,rfl,i⟩,c⟩:=b.inv;obtain⟨_,_,rfl,⟨q,rfl,j⟩,d⟩:=c.inv;obtain⟨_,_,rfl,⟨r,rfl,k⟩,e⟩:=d.inv;obtain⟨_,_,rfl,⟨s,rfl,l⟩,f⟩:=e.inv;have cn:=f.GV;subst cn;rfl;intro g a;obtain⟨_,_,rfl,⟨o,rfl,h⟩,b⟩:=a.inv;obtain⟨_,_,rfl,⟨p,rfl,i⟩,c⟩:=b.inv;obtain⟨_,_,rfl,⟨q,rfl,j⟩,d⟩:=c.inv;obtain⟨_,_,rfl,⟨r,rfl,k⟩,e⟩:=d.inv;obtain⟨_,_,rfl,⟨s,rfl,l⟩,f⟩:=e.inv;have cn:=f.GV;subst cn;exact⟨⟨o,p,q,r,s⟩,rfl,h,i,j,k,l⟩
def acb(a:Int):Prop:=IntKind.min .u16<=a/\a<=IntKind.max .u16
def ajG:Rd Tryz.prog 25 1 λb=>∃a:Int,b=(λa:Int=>[(T.int .u16) a]) a/\acb a:=T3 iX V5 rfl rfl
