/- Texts DReadLists to DReadLists. -/
import Derived.Test.YtmaeadedikngoaaGreatDoorA33
import Derived.Test.YtmaeadedikngoaaGreatDoorA44
set_option linter.all false
set_option maxRecDepth 100000
set_option maxHeartbeats 8000000
namespace Go.Proofs.YtmaeadedikngoaaGreatDoor
noncomputable section
open Go Go.TI
def XQ(a:Int):Prop:=IntKind.min .u8<=a/\a<=IntKind.max .u8
def rd5:Rd Tryz.prog 5 1 λb=>∃a:Int,b=(λa:Int=>[(T.int .u8) a]) a/\XQ a:=N0 fa PZ rfl rfl
def Pn(a:List Int):Prop:=a.length*1<=140737488351232/\∀b∈a,XQ b
def Vn:Rd Tryz.prog 22 1 λc=>∃a:List Int,c=(λa:List Int=>[(λb:List Int=>sl (b.map (T.int .u8))) a]) a/\Pn a:=GZ fa WC rfl rfl PZ rd5 dB false dC λ_=>rfl
def aao(a:mN):Prop:=Pn a.program/\Pn a.schedule/\Pn a.Eg/\XQ a.size/\XQ a.uY
def adG:Rd Tryz.prog 24 5 λg=>∃m:mN,g=m.cs/\aao m:=by
 refine(Ei fa P9 rfl rfl (n:=5) (.cons _ _ _ _ _ _ _ rfl Vn (.cons _ _ _ _ _ _ _ rfl Vn (.cons _ _ _ _ _ _ _ rfl Vn (.cons _ _ _ _ _ _ _ rfl rd5 (.cons _ _ _ _ _ _ _ rfl rd5 (.nil _)))))) ?_).imp ?_
 ·intro g a;obtain⟨_,_,rfl,⟨o,rfl,h⟩,b⟩:=a.inv;obtain⟨_,_,rfl,⟨p,rfl,i⟩,c⟩:=b.inv;obtain⟨_,_,rfl,⟨q,rfl,j⟩,d⟩:=c.inv;obtain⟨_,_,rfl,⟨r,rfl,k⟩,e⟩:=d.inv;obtain⟨_,_,rfl,⟨s,rfl,l⟩,f⟩:=e.inv;have cn:=f.zU;subst cn;rfl
 ·intro g a;obtain⟨_,_,rfl,⟨o,rfl,h⟩,b⟩:=a.inv;obtain⟨_,_,rfl,⟨p,rfl,i⟩,c⟩:=b.inv;obtain⟨_,_,rfl,⟨q,rfl,j⟩,d⟩:=c.inv;obtain⟨_,_,rfl,⟨r,rfl,k⟩,e⟩:=d.inv;obtain⟨_,_,rfl,⟨s,rfl,l⟩,f⟩:=e.inv;have cn:=f.zU;subst cn;exact⟨⟨o,p,q,r,s⟩,rfl,h,i,j,k,l⟩
def IG(a:Int):Prop:=IntKind.min .i64<=a/\a<=IntKind.max .i64
def XJ:Rd Tryz.prog 3 1 λb=>∃a:Int,b=(λa:Int=>[(T.int .i64) a]) a/\IG a:=N0 fa mM rfl rfl
def aan(a:List Int):Prop:=a.length*8<=140737488351232/\∀b∈a,IG b
def adF:Rd Tryz.prog 38 1 λc=>∃a:List Int,c=(λa:List Int=>[(λb:List Int=>sl (b.map (T.int .i64))) a]) a/\aan a:=GZ fa kz rfl rfl mM XJ dB false dC λ_=>rfl
def adQ(e:ik):Prop:=IG e.kind/\IG e.a/\IG e.b/\IG e.c/\IG e.d/\aan e.jD
def adE:Rd Tryz.prog 54 6 λh=>∃p:ik,h=p.cs/\adQ p:=by
 refine(Ei fa J7 rfl rfl (n:=6) (.cons _ _ _ _ _ _ _ rfl XJ (.cons _ _ _ _ _ _ _ rfl XJ (.cons _ _ _ _ _ _ _ rfl XJ (.cons _ _ _ _ _ _ _ rfl XJ (.cons _ _ _ _ _ _ _ rfl XJ (.cons _ _ _ _ _ _ _ rfl adF (.nil _))))))) ?_).imp ?_
 ·intro h a;obtain⟨_,_,rfl,⟨q,rfl,i⟩,b⟩:=a.inv;obtain⟨_,_,rfl,⟨r,rfl,j⟩,c⟩:=b.inv;obtain⟨_,_,rfl,⟨s,rfl,k⟩,d⟩:=c.inv;obtain⟨_,_,rfl,⟨t,rfl,l⟩,e⟩:=d.inv;obtain⟨_,_,rfl,⟨u,rfl,m⟩,f⟩:=e.inv;obtain⟨_,_,rfl,⟨v,rfl,o⟩,g⟩:=f.inv;have cn:=g.zU;subst cn;rfl
 ·intro h a;obtain⟨_,_,rfl,⟨q,rfl,i⟩,b⟩:=a.inv;obtain⟨_,_,rfl,⟨r,rfl,j⟩,c⟩:=b.inv;obtain⟨_,_,rfl,⟨s,rfl,k⟩,d⟩:=c.inv;obtain⟨_,_,rfl,⟨t,rfl,l⟩,e⟩:=d.inv;obtain⟨_,_,rfl,⟨u,rfl,m⟩,f⟩:=e.inv;obtain⟨_,_,rfl,⟨v,rfl,o⟩,g⟩:=f.inv;have cn:=g.zU;subst cn;exact⟨⟨q,r,s,t,u,v⟩,rfl,i,j,k,l,m,o⟩
end
end Go.Proofs.YtmaeadedikngoaaGreatDoor
