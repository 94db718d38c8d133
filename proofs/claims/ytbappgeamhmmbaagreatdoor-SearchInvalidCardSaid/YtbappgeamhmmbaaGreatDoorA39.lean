/- DReadInvalid -/
import Derived.Test.YtbappgeamhmmbaaGreatDoorA29
import Derived.Test.YtbappgeamhmmbaaGreatDoorA38
set_option linter.all false
set_option maxRecDepth 100000
set_option maxHeartbeats 0
namespace Go.Proofs.YtbappgeamhmmbaaGreatDoor
noncomputable section
open Go Go.TI
def XT(a:Int):Prop:=IntKind.min .u8<=a/\a<=IntKind.max .u8
def rd5:Rd Tryz.prog 5 1 λb=>∃a:Int,b=(λa:Int=>[(T.int .u8) a]) a/\XT a:=M0 gW OT rfl rfl
def Oj(a:List Int):Prop:=a.length*1<=140737488351232/\∀b∈a,XT b
def U1:Rd Tryz.prog 22 1 λc=>∃a:List Int,c=(λa:List Int=>[(λb:List Int=>sl (b.map (T.int .u8))) a]) a/\Oj a:=FY gW Wr rfl rfl OT rd5 B false J λ_=>rfl
def du(a:mJ):Prop:=Oj a.program/\Oj a.schedule/\Oj a.DD/\XT a.size/\XT a.ut
def aeQ:Rd Tryz.prog 24 5 λg=>∃m:mJ,g=m.cs/\du m:=by
 refine(DF gW OY rfl rfl (n:=5) (.cons _ _ _ _ _ _ _ rfl U1 (.cons _ _ _ _ _ _ _ rfl U1 (.cons _ _ _ _ _ _ _ rfl U1 (.cons _ _ _ _ _ _ _ rfl rd5 (.cons _ _ _ _ _ _ _ rfl rd5 (.nil _)))))) ?_).imp ?_
 ·intro g a;obtain⟨_,_,rfl,⟨o,rfl,h⟩,b⟩:=a.inv;obtain⟨_,_,rfl,⟨p,rfl,i⟩,c⟩:=b.inv;obtain⟨_,_,rfl,⟨q,rfl,j⟩,d⟩:=c.inv;obtain⟨_,_,rfl,⟨r,rfl,k⟩,e⟩:=d.inv;obtain⟨_,_,rfl,⟨s,rfl,l⟩,f⟩:=e.inv;have cn:=f.zH;subst cn;rfl
 ·intro g a;obtain⟨_,_,rfl,⟨o,rfl,h⟩,b⟩:=a.inv;obtain⟨_,_,rfl,⟨p,rfl,i⟩,c⟩:=b.inv;obtain⟨_,_,rfl,⟨q,rfl,j⟩,d⟩:=c.inv;obtain⟨_,_,rfl,⟨r,rfl,k⟩,e⟩:=d.inv;obtain⟨_,_,rfl,⟨s,rfl,l⟩,f⟩:=e.inv;have cn:=f.zH;subst cn;exact⟨⟨o,p,q,r,s⟩,rfl,h,i,j,k,l⟩
def HL(a:Int):Prop:=IntKind.min .i64<=a/\a<=IntKind.max .i64
def XG:Rd Tryz.prog 3 1 λb=>∃a:Int,b=(λa:Int=>[(T.int .i64) a]) a/\HL a:=M0 gW nN rfl rfl
def dh(a:List Int):Prop:=a.length*8<=140737488351232/\∀b∈a,HL b
def aeP:Rd Tryz.prog 25 1 λc=>∃a:List Int,c=(λa:List Int=>[(λb:List Int=>sl (b.map (T.int .i64))) a]) a/\dh a:=FY gW kO rfl rfl nN XG B false J λ_=>rfl
def ae2(e:jq):Prop:=HL e.kind/\HL e.a/\HL e.b/\HL e.c/\HL e.d/\dh e.kA
def aeO:Rd Tryz.prog 27 6 λh=>∃p:jq,h=p.cs/\ae2 p:=by
 refine(DF gW OX rfl rfl (n:=6) (.cons _ _ _ _ _ _ _ rfl XG (.cons _ _ _ _ _ _ _ rfl XG (.cons _ _ _ _ _ _ _ rfl XG (.cons _ _ _ _ _ _ _ rfl XG (.cons _ _ _ _ _ _ _ rfl XG (.cons _ _ _ _ _ _ _ rfl aeP (.nil _))))))) ?_).imp ?_
 ·intro h a;obtain⟨_,_,rfl,⟨q,rfl,i⟩,b⟩:=a.inv;obtain⟨_,_,rfl,⟨r,rfl,j⟩,c⟩:=b.inv;obtain⟨_,_,rfl,⟨s,rfl,k⟩,d⟩:=c.inv;obtain⟨_,_,rfl,⟨t,rfl,l⟩,e⟩:=d.inv;obtain⟨_,_,rfl,⟨u,rfl,m⟩,f⟩:=e.inv;obtain⟨_,_,rfl,⟨v,rfl,o⟩,g⟩:=f.inv;have cn:=g.zH;subst cn;rfl
 ·intro h a;obtain⟨_,_,rfl,⟨q,rfl,i⟩,b⟩:=a.inv;obtain⟨_,_,rfl,⟨r,rfl,j⟩,c⟩:=b.inv;obtain⟨_,_,rfl,⟨s,rfl,k⟩,d⟩:=c.inv;obtain⟨_,_,rfl,⟨t,rfl,l⟩,e⟩:=d.inv;obtain⟨_,_,rfl,⟨u,rfl,m⟩,f⟩:=e.inv;obtain⟨_,_,rfl,⟨v,rfl,o⟩,g⟩:=f.inv;have cn:=g.zH;subst cn;exact⟨⟨q,r,s,t,u,v⟩,rfl,i,j,k,l,m,o⟩
