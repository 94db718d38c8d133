/- Texts DReadValid to DReadValid. -/
import Derived.Test.YtmaeadedikngoaaGreatDoorA38
import Derived.Test.YtmaeadedikngoaaGreatDoorA49
set_option linter.unusedVariables false
set_option linter.unusedSimpArgs false
set_option linter.defProp false
set_option maxRecDepth 100000
set_option maxHeartbeats 8000000
namespace Go.Proofs.YtmaeadedikngoaaGreatDoor
noncomputable section
open Go Go.TI
def V5(a:Int):Prop:=IntKind.min .u8<=a/\a<=IntKind.max .u8
def rd5:Rd Tryz.prog 5 1 λb=>∃a:Int,b=(λa:Int=>[(T.int .u8) a]) a/\V5 a:=MM eg OJ rfl rfl
def N6(a:List Int):Prop:=a.length*1<=140737488351232/\∀b∈a,V5 b
def T1:Rd Tryz.prog 22 1 λc=>∃a:List Int,c=(λa:List Int=>[(λb:List Int=>sl (b.map (T.int .u8))) a]) a/\N6 a:=F0 eg Vb rfl rfl OJ rd5 dj false dp λ_=>rfl
def YR(a:mn):Prop:=N6 a.program/\N6 a.schedule/\N6 a.Dw/\V5 a.size/\V5 a.uq
def ab0:Rd Tryz.prog 24 5 λg=>∃m:mn,g=m.cs/\YR m:=by
 refine(Dy eg ON rfl rfl (n:=5) (.cons _ _ _ _ _ _ _ rfl T1 (.cons _ _ _ _ _ _ _ rfl T1 (.cons _ _ _ _ _ _ _ rfl T1 (.cons _ _ _ _ _ _ _ rfl rd5 (.cons _ _ _ _ _ _ _ rfl rd5 (.nil _)))))) ?_).imp ?_
 ·intro g a;obtain⟨_,_,rfl,⟨o,rfl,h⟩,b⟩:=a.inv;obtain⟨_,_,rfl,⟨p,rfl,i⟩,c⟩:=b.inv;obtain⟨_,_,rfl,⟨q,rfl,j⟩,d⟩:=c.inv;obtain⟨_,_,rfl,⟨r,rfl,k⟩,e⟩:=d.inv;obtain⟨_,_,rfl,⟨s,rfl,l⟩,f⟩:=e.inv;have cn:=f.yW;subst cn;rfl
 ·intro g a;obtain⟨_,_,rfl,⟨o,rfl,h⟩,b⟩:=a.inv;obtain⟨_,_,rfl,⟨p,rfl,i⟩,c⟩:=b.inv;obtain⟨_,_,rfl,⟨q,rfl,j⟩,d⟩:=c.inv;obtain⟨_,_,rfl,⟨r,rfl,k⟩,e⟩:=d.inv;obtain⟨_,_,rfl,⟨s,rfl,l⟩,f⟩:=e.inv;have cn:=f.yW;subst cn;exact⟨⟨o,p,q,r,s⟩,rfl,h,i,j,k,l⟩
def HI(a:Int):Prop:=IntKind.min .i64<=a/\a<=IntKind.max .i64
def V0:Rd Tryz.prog 3 1 λb=>∃a:Int,b=(λa:Int=>[(T.int .i64) a]) a/\HI a:=MM eg nM rfl rfl
def YQ(a:List Int):Prop:=a.length*8<=140737488351232/\∀b∈a,HI b
def abZ:Rd Tryz.prog 38 1 λc=>∃a:List Int,c=(λa:List Int=>[(λb:List Int=>sl (b.map (T.int .i64))) a]) a/\YQ a:=F0 eg kG rfl rfl nM V0 dj false dp λ_=>rfl
def aca(e:jo):Prop:=HI e.kind/\HI e.a/\HI e.b/\HI e.c/\HI e.d/\YQ e.kF
def abY:Rd Tryz.prog 54 6 λh=>∃p:jo,h=p.cs/\aca p:=by
 refine(Dy eg OI rfl rfl (n:=6) (.cons _ _ _ _ _ _ _ rfl V0 (.cons _ _ _ _ _ _ _ rfl V0 (.cons _ _ _ _ _ _ _ rfl V0 (.cons _ _ _ _ _ _ _ rfl V0 (.cons _ _ _ _ _ _ _ rfl V0 (.cons _ _ _ _ _ _ _ rfl abZ (.nil _))))))) ?_).imp ?_
 ·intro h a;obtain⟨_,_,rfl,⟨q,rfl,i⟩,b⟩:=a.inv;obtain⟨_,_,rfl,⟨r,rfl,j⟩,c⟩:=b.inv;obtain⟨_,_,rfl,⟨s,rfl,k⟩,d⟩:=c.inv;obtain⟨_,_,rfl,⟨t,rfl,l⟩,e⟩:=d.inv;obtain⟨_,_,rfl,⟨u,rfl,m⟩,f⟩:=e.inv;obtain⟨_,_,rfl,⟨v,rfl,o⟩,g⟩:=f.inv;have cn:=g.yW;subst cn;rfl
 ·intro h a;obtain⟨_,_,rfl,⟨q,rfl,i⟩,b⟩:=a.inv;obtain⟨_,_,rfl,⟨r,rfl,j⟩,c⟩:=b.inv;obtain⟨_,_,rfl,⟨s,rfl,k⟩,d⟩:=c.inv;obtain⟨_,_,rfl,⟨t,rfl,l⟩,e⟩:=d.inv;obtain⟨_,_,rfl,⟨u,rfl,m⟩,f⟩:=e.inv;obtain⟨_,_,rfl,⟨v,rfl,o⟩,g⟩:=f.inv;have cn:=g.yW;subst cn;exact⟨⟨q,r,s,t,u,v⟩,rfl,i,j,k,l,m,o⟩
end
end Go.Proofs.YtmaeadedikngoaaGreatDoor
