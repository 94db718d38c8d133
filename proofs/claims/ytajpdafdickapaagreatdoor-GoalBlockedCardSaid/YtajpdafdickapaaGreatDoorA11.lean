/- W08d -/
import Derived.Test.YtajpdafdickapaaGreatDoorA9
import Derived.Test.YtajpdafdickapaaGreatDoorA10
set_option linter.all false
set_option maxRecDepth 100000
set_option maxHeartbeats 8000000
namespace Go.Proofs.YtajpdafdickapaaGreatDoor
noncomputable section
open Go Go.TI Tryz
attribute [-simp] List.map_take List.map_drop List.map_append fy fa eg Bool.not_or Bool.not_and
attribute [simp] fw fc
def uj:gG:=⟨dY,λa=>[a.t],λa=>a.ei.length<=1000000/\a.ee.length<=1000000/\a.dH.length<=1000000,λa=>(lx a).t,λc d b=>by simp at b;rw[dY.inj b]⟩
def yS(_:Unit):T:= .agg [Z (-1),dD]
def SO{b:H}{V:Nat->Prop}(a:Nat):iM (FT b V 2) ((List.replicate a ()).map yS) ((List.replicate a (⟨-1,[]⟩:dR)).map dR.t):=by
 induction a with
 |zero=>exact .nil
 |succ a c=>
  rw[da,da];exact .cons (.inr (.inr ⟨_,_,rfl,.cons (gW ..) (.cons (jl ..) .nil),rfl⟩)) c
def Sy8(e:H)(Lk:List Unit)(a:List Bool)(Th:List dJ):Prop:=∃f b c d,ny e 2 4 f [(b,some (2,Lk.map yS)),(Z (-1),none),(c,some (1,a.map T.bool)),(d,some (3,Th.map dJ.t))]
def vV:iY:=(dE 4 0 [.agg [dD,Z 0,dD,dD]])
def Nk:uj.Ok prog cx 87:=by
 refine fZ [] (iX 9071038046463 [] func87) (λ_=>1000005) (by simp[uj]) ?_;rintro(w:dY) ⟨hl,W,ht⟩ b O;simp[uj]at O|-;simp[f87,O];refine fD w.ei.length J (λc b h=>Sy8 h (List.replicate c ()) [] []/\Lb 2 h 0 (dE 6 0 [w.t])/\Lb 2 h 1 vV/\dF b 1 (.ptr 0 0 0 0)/\dF b 2 (.ptr 1 0 0 0)/\dF b 3 (.ptr 2 0 0 0)/\dF b 4 (Z c)) ?_ ?_ J ?_
 ·rintro c b h A z ⟨⟨ver,s,u,v,a⟩,e,k,j,n,o,p⟩;have m:=a.get;simp at m;have⟨M,C,r,i⟩:=(a.gr 0 rfl).mn (cx:=cx) (f:=yS) a.ok KR rfl Hb rfl dy (λ_=>rfl) () dz;have⟨q,K,x⟩:=a.app 0 rfl i;have⟨g,l⟩:=x _ rfl;simp only[<-List.replicate_succ']at l;simp[-List.map_replicate]at q g l;simp only[yS]at r;simp[j,n,o,p,A,e.get,m,r,q,dX,i.1.iy,i.1.cells,z];exact⟨⟨_,_,_,_,l⟩,e.step g,k.step g⟩
 ·rintro b h ⟨⟨ver,s,u,v,a⟩,e,k,j,n,o,p⟩;simp[j,p,e.get];refine fD w.ee.length J (λc b h=>Sy8 h (List.replicate w.ei.length ()) (List.replicate c false) []/\Lb 2 h 0 (dE 6 0 [w.t])/\Lb 2 h 1 vV/\dF b 1 (.ptr 0 0 0 0)/\dF b 2 (.ptr 1 0 0 0)/\dF b 3 (.ptr 2 0 0 0)/\dF b 5 (Z c)) ?_ ?_ J ⟨⟨_,_,_,_,a⟩,e,k,by simp[j,n,o]⟩
  ·rintro c b h A z ⟨⟨ver,s,u,v,a⟩,e,k,j,n,o,p⟩;have m:=a.get;simp at m;have⟨M,C,r,i⟩:=(a.gr 2 rfl).mn (cx:=cx) (f:=T.bool) a.ok AZ rfl L4 rfl dy dy false dz;have⟨q,K,x⟩:=a.app 2 rfl i;have⟨g,l⟩:=x _ rfl;simp only[<-List.replicate_succ']at l;simp[-List.map_replicate]at q g l;simp[j,n,o,p,A,e.get,m,r,q,dX,i.1.iy,i.1.cells,z];exact⟨⟨_,_,_,_,l⟩,e.step g,k.step g⟩
  ·rintro b h ⟨⟨ver,s,u,v,a⟩,e,k,j,n,o,p⟩;simp[j,p,e.get];refine fD w.dH.length J (λc b h=>Sy8 h (List.replicate w.ei.length ()) (List.replicate w.ee.length false) ((List.range c).map λc=>(⟨if c=0 then 1 else 0,0,false⟩:dJ))/\Lb 2 h 0 (dE 6 0 [w.t])/\Lb 2 h 1 vV/\dF b 1 (.ptr 0 0 0 0)/\dF b 2 (.ptr 1 0 0 0)/\dF b 3 (.ptr 2 0 0 0)/\dF b 6 (Z c)) ?_ ?_ J ⟨⟨_,_,_,_,a⟩,e,k,by simp[j,n,o]⟩
   ·rintro c b h A z ⟨⟨ver,s,u,v,a⟩,e,k,j,n,o,p⟩;have m:=a.get;simp at m;have X:(0=h.size)=False:=by have:=a.lt;simp;omega
    have P:(2=h.size)=False:=by have:=a.lt;simp;omega
    by_cases D:c=0
    ·subst D;have R:binop .add (Z 0) (Z 1)=some (Z 1):=by simpa using z
     have y:=a.cons (dE 3 2 [dJ.t ⟨1,0,false⟩]);have B:=Step.cons a.ok a.lt (dE 3 2 [dJ.t ⟨1,0,false⟩]);have E:=e.step B;have H:=k.step B;have⟨M,C,r,i⟩:=(y.gr 3 rfl).mn (cx:=cx) (f:=dJ.t) y.ok Em rfl Ha rfl dy (λ_=>rfl) (⟨1,0,false⟩:dJ) dy;have⟨q,K,x⟩:=y.app 3 rfl i;have⟨g,l⟩:=x _ rfl;simp only[aP,bI,cw,cq]at q g l;rw[size_cons]at r;simp[j,n,o,p,A,e.get,m,P,a.ok.low,r,q,dX,i.1.iy,i.1.cells,R];exact⟨⟨_,_,_,_,l⟩,E.step g,H.step g⟩
    ·skip
     have y:=a.cons (dE 3 1 [dJ.t ⟨0,0,false⟩]);have B:=Step.cons a.ok a.lt (dE 3 1 [dJ.t ⟨0,0,false⟩]);have E:=e.step B;have H:=k.step B;have⟨M,C,r,i⟩:=(y.gr 3 rfl).mn (cx:=cx) (f:=dJ.t) y.ok Em rfl Ha rfl dy (λ_=>rfl) (⟨0,0,false⟩:dJ) dz;have⟨q,K,x⟩:=y.app 3 rfl i;have⟨g,l⟩:=x _ rfl;simp only[aP,bI,cw,cq]at q g l;rw[size_cons]at r;simp[j,n,o,p,D,A,e.get,m,P,a.ok.low,r,q,dX,i.1.iy,i.1.cells,z];have hr:(List.range (c+1)).map (λc=>(⟨if c=0 then 1 else 0,0,false⟩:dJ))=(List.range c).map (λc=>(⟨if c=0 then 1 else 0,0,false⟩:dJ))++[⟨0,0,false⟩]:=by
      rw[List.range_succ,List.map_append];simp[D]
     rw[hr];exact⟨⟨_,_,_,_,l⟩,E.step g,H.step g⟩
   ·rintro b h ⟨⟨ver,s,u,v,a⟩,e,k,j,n,o,p⟩;have m:=a.get;simp at m;have G:=k.get;unfold vV at G;have L:=a.qx k (dE 4 1 [.agg [s,Z (-1),u,v]]);have S:(dZ h 1 (dE 4 1 [.agg [s,Z (-1),u,v]])).get 1=_:=(dN G _ 1).trans (ar rfl);have Q:=(L.gr 0 rfl).KF (d:=2) J (SO (V:=λ_=>True) w.ei.length);simp[j,n,o,p,e.get,m,G,dX,S,Q,(L.gr 2 rfl).fz dy,(L.gr 3 rfl).fz dy,-List.map_replicate];exact⟨a.ok.hp,by unfold lx fq.t fq.cs;simp[List.map_const',-List.map_replicate]⟩
 ·have⟨U,N⟩:=ny.start (h:=((hE.cons (dE 6 0 [w.t])).cons vV).cons (dE 4 1 [.agg [dD,Z (-1),dD,dD]])) (w:=2) (szw:=4) (ver:=1) (F:=[(dD,some (2,[])),(Z (-1),none),(dD,some (1,[])),(dD,some (3,[]))]) ⟨dy,dy,dy⟩ (by simp[vV]) dy;exact⟨⟨_,_,_,_,U⟩,⟨dy,λI=>absurd (N 0 I) dB⟩,⟨by simp[vV],λI=>absurd (N 1 I) dB⟩,dy⟩
def Jd{b:fJ}(ht:b.p 87=some uj)(a:dY)(c:a.ei.length<=1000000)(d:a.ee.length<=1000000)(e:a.dH.length<=1000000):rl prog cx b 87 [a.t]=some (lx a).t:=im ht Nk a ⟨c,d,e⟩
def afI(f:H)(a:fq)(b c:Nat)(d:List Int):Prop:=∃g e,ny f 4 7 g [(sl (a.ei.map dR.t),none),(Z a.tx,none),(sl (a.done.map T.bool),none),(sl (a.dH.map dJ.t),none),(e,some (1,d.map (T.int .i64))),(.arr 2 0 0 b false,some (1,(List.replicate b 0).map (T.int .i64))),(.arr 3 0 0 c false,some (1,(List.replicate c 0).map (T.int .i64)))]
def nO:iY:=(dE 7 0 [.agg [dD,Z 0,dD,dD,dD,dD,dD]])
def qt:gG:=⟨dY,λa=>[a.t],λa=>a.ei.length<=1000000/\a.ee.length<=1000000/\a.dH.length<=1000000/\a.cells.length<=1000000,λa=>(jU a).t,λc d b=>by simp at b;rw[dY.inj b]⟩
def Nj:qt.Ok prog cx 39:=by
 refine fZ [(87,uj)] (iX 1048607 [(1,[(1,3),(1,5),(1,7),(1,9),(1,11)])] func39) (λ_=>1000005) (by simp[qt]) ?_;rintro(a:dY) ⟨hl,q,ht,F⟩ h e;simp[qt]at e|-;have N:a.ee.length*8<=70368744177664:=J;have O:a.dH.length*8<=70368744177664:=J;simp[f39,e,Jd,hl,q,ht,N,O];have S:(jU a).t=eQ.t ⟨lx a,a.cells.map iq.jF,List.replicate a.ee.length 0,List.replicate a.dH.length 0⟩:=by
  unfold jU;simp only[List.map_const']
 rw[S];generalize lx a=b at*
 refine fD a.cells.length J (λm h i=>∃j,afI i b a.ee.length a.dH.length j/\j.length=m/\j=(a.cells.take m).map iq.jF/\Lb 4 i 0 (dE 6 0 [a.t])/\Lb 4 i 1 nO/\dF h 1 (.ptr 0 0 0 0)/\dF h 2 (.ptr 1 0 0 0)/\dF h 3 (.ptr 4 0 0 0)/\dF h 4 (Z m)) ?_ ?_ J ?_
 ·rintro m h i G U ⟨j,⟨Y,c,d⟩,R,p,r,s,n,o,w,y⟩;have l:=d.get;simp at l;have⟨aA,ap,P,E⟩:=(d.gr 4 rfl).mn (cx:=cx) (f:=T.int .i64) d.ok pi rfl zR rfl dy (λ_=>rfl) a.cells[m].jF dz;have⟨u,av,B⟩:=d.app 4 rfl E;have⟨D,L⟩:=B _ rfl;simp only[aP,bI,cw,cq]at u D L;simp[n,o,w,y,G,r.get,l,P,u,dX,E.1.iy,E.1.cells,U];exact⟨_,⟨_,_,L⟩,dz,by rw[p,aQ G,List.map_append];rfl,r.step D,s.step D⟩
 ·rintro h i ⟨j,⟨Y,c,d⟩,R,p,r,s,n,o,w,y⟩;rw[aK]at p;subst p;have l:=d.get;simp at l;have z:=s.get;unfold nO at z;have C:=d.qx s (dE 7 1 [.agg [sl (b.ei.map dR.t),Z b.tx,sl (b.done.map T.bool),sl (b.dH.map dJ.t),c,.arr 2 0 0 a.ee.length false,.arr 3 0 0 a.dH.length false]]);have Q:(dZ i 1 (dE 7 1 [.agg [sl (b.ei.map dR.t),Z b.tx,sl (b.done.map T.bool),sl (b.dH.map dJ.t),c,.arr 2 0 0 a.ee.length false,.arr 3 0 0 a.dH.length false]])).get 1=_:=(dN z _ 1).trans (ar rfl);have ae:=(C.gr 4 rfl).fz dy;have al:=(C.gr 5 rfl).fz dy;have an:=(C.gr 6 rfl).fz dy;simp[n,o,w,y,r.get,l,z,dX,Q,ae,al,an,-List.map_replicate,-wK];exact⟨d.ok.hp,by unfold eQ.t eQ.cs;simp[-List.map_replicate]⟩
 ·have K:∀(g:Nat) (k:T×aa (Nat×List T)),([(sl (b.ei.map dR.t),none),(Z b.tx,none),(sl (b.done.map T.bool),none),(sl (b.dH.map dJ.t),none),(dD,some (1,[])),(.arr 2 0 0 a.ee.length false,some (1,(List.replicate a.ee.length 0).map (T.int .i64))),(.arr 3 0 0 a.dH.length false,some (1,(List.replicate a.dH.length 0).map (T.int .i64)))]:List (T×aa (Nat×List T)))[g]? =some k->∀c,dT k.1=some c->c+3=g:=by
   intro g k e c F;rcases g with _|_|_|_|_|_|_|g<;>simp at e<;>subst e<;>simp at F<;>omega
  refine⟨[],⟨1,dD,⟨dy,dy,dy⟩,dy,λf q=>?_,λg X W k M e V c u B=>W ?_⟩,rfl,dy,⟨dy,?_⟩,⟨by simp[nO],?_⟩,dy⟩
  ·simp only[bZ,cG,or_false,bI]at q;rcases q with rfl|rfl|rfl|rfl|rfl|rfl|rfl
   iterate 4 (show dT _=none;simp)
   ·exact⟨Gr.nil _ _,dB⟩
   ·exact⟨.inr ⟨2,0,0,true,_,dy,by simp;rfl,dy⟩,show(1:Nat)≠7 by decide⟩
   ·exact⟨.inr ⟨3,0,0,true,_,dy,by simp;rfl,dy⟩,show(1:Nat)≠7 by decide⟩
  ·have n:=K g k e c u;have o:=K X M V c B;omega
  all_goals
   rintro(A|⟨x,I,v,H,A⟩)
   ·simp at A
   ·simp at I;subst I;simp[fF,T.cells]at H;rcases H with rfl|rfl|rfl|rfl|rfl|rfl|rfl<;>simp at A
def Er{b:fJ}(ht:b.p 39=some qt)(a:dY)(c:a.ei.length<=1000000)(d:a.ee.length<=1000000)(e:a.dH.length<=1000000)(f:a.cells.length<=1000000):rl prog cx b 39 [a.t]=some (jU a).t:=im ht Nj a ⟨c,d,e,f⟩
def uk:gG:=⟨List ez×Nat×Int×List Int,λa=>[sl (a.1.map ez.t),Z a.2.1,Z a.2.2.1,sl (a.2.2.2.map (T.int .i64))],λa=>a.2.1<=a.1.length/\a.1.length<=1000000/\a.2.2.2.length<=1000000,λa=> .bool (we (a.1.take a.2.1) a.2.2.1 a.2.2.2),λa c b=>by
 obtain⟨a1,a2,a3,a4⟩:=a;obtain⟨h,i,j,k⟩:=c;simp at b;obtain⟨d,e,f,g⟩:=b;rw[jx (λ_ _=>ez.inj) d,Int.ofNat.inj e,f,jx (λ_ _ b=>by simpa using b) g]⟩
def ScR(d e:Int)(b:List ez)(c f g:Nat)(h:T):Prop:=∃a:Bool,h= .bool a/\Bb d e ((b.take c).drop f) g a=Bb d e (b.take c) 0 false
def Nm:uk.Ok prog cx 92:=by
 refine fZ [] (iX 576460753379335951 [] func92) (λ_=>1000005) (by simp[uk]) ?_;rintro⟨b,l,v,m⟩ ⟨L,hl,N⟩ a A;simp at L hl N;simp[uk]at A|-;obtain⟨f,c,g,d⟩:=A;simp[f92];refine fD m.length J (λj a n=>n=hE/\dF a 0 (sl (b.map ez.t))/\dF a 1 (Z l)/\dF a 2 (Z v)/\dF a 3 (sl (m.map (T.int .i64)))/\dF a 9 (Z j)/\(m.take j).all (λE=>Bb v E (b.take l) 0 false)=true) ?_ ?_ J (by simp[f,c,g,d])
 ·rintro j a n u G ⟨rfl,f,c,g,d,h,s⟩;simp[d,h,u];refine fD l J (λe a n=>n=hE/\dF a 0 (sl (b.map ez.t))/\dF a 1 (Z l)/\dF a 2 (Z v)/\dF a 3 (sl (m.map (T.int .i64)))/\dF a 9 (Z j)/\∃(k:Nat) (w:T),dF a 10 (Z k)/\dF a 11 w/\dF a 12 (Z e)/\k<=e/\ScR v m[j] b l e k w) ?_ ?_ J ⟨rfl,by simp[f],by simp[c],by simp[g],by simp[d],by simp[h],0,.bool false,dy,dy,dy,aw _,false,rfl,rfl⟩
  ·rintro e a n H B ⟨rfl,f,c,g,d,h,k,w,y,r,o,I,x,rfl,i⟩;have C:e<b.length:=J;have z:(b.take l).drop e=b[e]::(b.take l).drop (e+1):=by
    rw[aI dz];simp
   rw[z,Bb]at i;simp[f,c,g,o,H,C];have K:b[e]? =some b[e]:=az C;have M:m[j]? =some m[j]:=az u;generalize b[e]=P at*
   generalize m[j]=E at*
   have F:binop .add (Z (k:Int)) (Z 1)=some (Z ((k+1:Nat):Int)):=by rw[iL J J];simp
   refine ej (λp=>?_) (λp=>?_)
   ·simp at p;rw[aq p]at i;simp[f,c,g,d,h,y,r,o,B];exact⟨k,rfl,J,x,rfl,i⟩
   ·simp at p;rw[ar p]at i;simp[f,c,g,d,h,y,r,o,K,M,F,B];exact⟨k+1,dy,J,_,rfl,i⟩
  ·rintro a n ⟨rfl,f,c,g,d,h,k,w,y,r,o,I,x,rfl,i⟩;have z:(b.take l).drop l=[]:=dy;rw[z,Bb]at i;simp[c,r,o];cases x with
   |false=>
    simp;unfold we;rw[List.all_eq_false];exact⟨m[j],aF u,by rw[<-i];simp⟩
   |true=>
    simp[f,c,g,d,h,G];intro O D;rw[aQ u]at D;rcases List.mem_append.1 D with q|q
    ·exact List.all_eq_true.1 s O q
    ·rw[List.mem_singleton.1 q];exact i.symm
 ·rintro a n ⟨rfl,f,c,g,d,h,s⟩;rw[aK]at s;simp[d,h];unfold we;rw[s]
def Rs{e:fJ}(ht:e.p 92=some uk)(a:List ez)(b:Nat)(d:Int)(c:List Int)(f:b<=a.length)(g:a.length<=1000000)(h:c.length<=1000000):rl prog cx e 92 [sl (a.map ez.t),Z b,Z d,sl (c.map (T.int .i64))]=some (.bool (we (a.take b) d c)):=im ht Nm (a,b,d,c) ⟨f,g,h⟩
end
noncomputable section
open Go Go.TI Tryz
section
attribute [-simp] List.map_take List.map_drop List.map_append
def HY:gG:=⟨Int×Nat,λa=>[Z a.1,Z a.2],λa=>True,λa=> .bool (iN a.1 a.2),λa c b=>by simp at b;rw[b.1,show a.2=c.2 by omega]⟩
def WP:HY.Ok prog cx 125:=by
 refine fZ [] (iX 19 [] func125) (λf=>1) (by simp[HY]) ?_;rintro⟨e,g⟩ _ h a;simp[HY]at a|-;obtain⟨b,c⟩:=a;by_cases d:0<=e<;>simp[f125,b,c,d,iN]
def RB{c:fJ}(ht:c.p 125=some HY)(a:Int)(b:Nat):rl prog cx c 125 [Z a,Z b]=some (.bool (iN a b)):=im ht WP (a,b) trivial
def xh:gG:=⟨dY×eQ,λa=>[a.1.t,a.2.t],λa=>a.1.gF.length<=1099511627776,λa=> .bool (mB a.1 a.2),λa c b=>by simp at b;rw[dY.inj b.1,eQ.inj b.2]⟩
def Qi:xh.Ok prog cx 82:=by
 refine fZ [(67,rG)] (iX 31 [] func82) (λi=>1) (by simp[xh]) ?_;rintro⟨b,a⟩ hl j e;simp[xh]at hl e|-;obtain⟨c,d⟩:=e;cases f:kZ b a.fj with
 |false=>simp[f82,c,d,tK,hl,f,mB]
 |true=>by_cases g:a.cells.length=b.cells.length<;>by_cases h:a.ee.length=b.ee.length<;>simp[f82,c,d,tK,hl,f,g,h,mB,Int.natCast_inj]
def Hl{c:fJ}(ht:c.p 82=some xh)(a:dY)(b:eQ)(hl:a.gF.length<=1099511627776):rl prog cx c 82 [a.t,b.t]=some (.bool (mB a b)):=im ht Qi (a,b) hl
def wj:gG:=⟨List Int×Int,λa=>[sl (a.1.map (T.int .i64)),Z a.2],λa=>a.1.length<=1099511627776,λa=> .bool (yp a.2 none a.1),λa c b=>by simp at b;rw[jx dy b.1,b.2]⟩
def Nq:wj.Ok prog cx 126:=by
 refine fZ [] (iX 1099511628339 [] func126) (λt=>t.1.length+1) (by simp[wj]) ?_;rintro⟨c,k⟩ hl j p;simp[wj]at hl p|-;obtain⟨d,g⟩:=p;simp[f126];refine fD c.length J (λb j n=>n=hE/\dF j 0 (sl (c.map (T.int .i64)))/\dF j 1 (Z k)/\dF j 5 (Z b)/\yp k (if b=0 then none else c[b-1]?) (c.drop b)=yp k none c) ?_ ?_ J (by simp[d,g])
 ·rintro b j n i q ⟨rfl,d,g,h,a⟩;rw[aI i]at a;simp only[yp]at a;by_cases e:c[b]<1
  ·simp[e]at a;simp[d,h,i,e,a]
  ·by_cases f:k<=c[b]
   ·simp[f]at a;simp[d,g,h,i,e,f,a]
   ·by_cases r:b=0
    ·have l:¬0<b:=J;rw[ar r]at a;simp[e,f]at a;simp[d,g,h,i,q,e,f,l];exact a
    ·have l:0<b:=J;have o:b-1<c.length:=J;have s:binop .sub (Z (b:Int)) (Z 1)=some (Z ((b-1:Nat):Int)):=by rw[kU J J,show(b:Int)-1=((b-1:Nat):Int)by omega]
     rw[aq r,az o]at a;by_cases m:c[b]<=c[b-1]
     ·simp[e,f,m]at a;simp[d,g,h,i,o,e,f,m,s,a,l]
     ·simp[e,f,m]at a;simp[d,g,h,i,o,q,e,f,m,s,l];exact a
 ·rintro j n ⟨rfl,d,g,h,a⟩;simp[yp]at a;simp[d,h,a]
def Rv{c:fJ}(ht:c.p 126=some wj)(a:List Int)(b:Int)(hl:a.length<=1099511627776):rl prog cx c 126 [sl (a.map (T.int .i64)),Z b]=some (.bool (yp b none a)):=im ht Nq (a,b) hl
def uh:gG:=⟨eQ×ez,λa=>[a.1.t,a.2.t],λa=>a.1.fj.dH.length<=1099511627776/\(a.2.kind=3->iN a.2.obj a.1.cells.length=true)/\(a.2.kind=23->iN a.2.obj a.1.ee.length=true),λa=> .bool (ot a.1 a.2),λa c b=>by simp at b;rw[eQ.inj b.1,ez.inj b.2]⟩
def Ng:uh.Ok prog cx 127:=by
 refine fZ [(49,r7),(31,C6)] (iX 18889470444974887141823 [(17,[(1,6)])] func127) (λv=>1) (by simp[uh]) ?_;rintro⟨i,a⟩ hl w j;simp[uh]at hl j|-;obtain⟨b,c⟩:=j;obtain⟨hl,k,l⟩:=hl;by_cases f:a.kind=3
 ·have⟨u,d,g⟩:=iD (k f);simp[f127,b,c,f,ot,eG (eZ.1 (k f)).1,d,g]
 ·by_cases e:a.kind=23
  ·have⟨u,d,g⟩:=iD (l e);simp[f127,b,c,e,ot,eG (eZ.1 (l e)).1,d,g]
  ·by_cases q:a.kind=5
   ·by_cases d:a.value=0<;>simp[f127,b,c,q,ot,d]
   ·by_cases p:a.kind=4
    ·simp[f127,b,c,p,ot]
    ·by_cases o:a.kind=22
     ·simp[f127,b,c,o,ot]
     ·by_cases h:a.kind=18
      ·have r:=Fe a.obj i.fj.dH 0;by_cases m:iw a.obj i.fj.dH 0=[]
       ·simp[f127,b,c,h,ot,Ae,hl,m]
       ·by_cases s:0<=a.value<;>by_cases t:a.value<i.fj.dH.length<;>
         simp[f127,b,c,h,ot,Ae,hl,m,s,t,RC,aT r hl]
      ·by_cases n:a.kind=19
       ·simp[f127,b,c,n,ot,Ae,hl]
       ·simp[f127,b,c,f,e,q,p,o,h,n,ot]
def Rq{c:fJ}(ht:c.p 127=some uh)(b:eQ)(a:ez)(hl:b.fj.dH.length<=1099511627776)(d:a.kind=3->iN a.obj b.cells.length=true)(e:a.kind=23->iN a.obj b.ee.length=true):rl prog cx c 127 [b.t,a.t]=some (.bool (ot b a)):=im ht Ng (b,a) ⟨hl,d,e⟩
end
def ze(a:List Int)(b:Int):rH a b=lK a b:=by
 induction a with
 |nil=>rfl
 |cons d a c=>rw[rH,lK,c]
def De:∀(b a:List Int),Jt a->Jt (mc a b):=by
 intro b;induction b with
 |nil=>intro a c;exact c
 |cons e b d=>intro a c;exact d _ (by rw[ze];exact DM c e)
def Dd:∀(c b:List Int) (a:Int),a∈mc b c->a∈b\/a∈c:=by
 intro c;induction c with
 |nil=>intro b a h;exact .inl h
 |cons e c d=>
  intro b a h;rcases d (rH b e) a h with h|h
  ·rw[ze]at h;rcases DI h with h|h
   ·exact .inl h
   ·exact .inr (by simp[h])
  ·exact .inr (by simp[h])
def Mw:∀(a:List Int) (e b:Int),Jt a->(∀c∈a,e<=c/\c<b)->a.length<=(b-e).toNat:=by
 intro a;induction a with
 |nil=>intro e b _ _;simp
 |cons c a i=>
  intro e b d f;unfold Jt at d;rw[dj]at d;have j:=i (c+1) b d.2 λh g=>⟨by have:=d.1 h g;omega,(f h (by simp[g])).2⟩;have k:=f c dy;simp;omega
def Tn(a:Nat)(b:List Int):Prop:=b.length<=a/\∀c∈b,0<=c/\c<a
theorem Tn.nil(a:Nat):Tn a []:=⟨ax _,λc b=>by simp at b⟩
def Tn.union{a:Nat}{c d:List Int}(f:Tn a c)(g:Tn a d):Tn a (Aq c d):=by
 have e:∀b∈Aq c d,0<=b/\b<a:=λb i=>by
  rcases Dd _ _ _ i with h|h
  ·rcases Dd _ _ _ h with h|h
   ·simp at h
   ·exact f.2 b h
  ·exact g.2 b h
 refine⟨?_,e⟩;have:=Mw (Aq c d) 0 a (De _ _ (De _ _ List.Pairwise.nil)) e;omega
end
end Go.Proofs.YtajpdafdickapaaGreatDoor
namespace Go.TI
noncomputable section
section
@[simp]def aaM (a:H) (b:iY):(a.cons b).size=a.size+1:=id rfl
def iM.Iz{b h:Type}{c:b->h->Prop}{e:List b}{f:List h}(j:iM c e f){g:b}(d:g∈e):∃a∈f,c g a:=by
 induction j with
 |nil=>simp at d
 |cons i _ l=>
  rcases List.mem_cons.1 d with rfl|q
  ·exact⟨_,dy,i⟩
  ·have⟨a,k,m⟩:=l q;exact⟨a,by simp[k],m⟩
section
variable {cx:Ctx}{cf:jd}{mask n:Nat}{dl:DL}
def acD{f:Out}{e:Env->H->Prop}{c:iS}(i:W f (yr e c))(j:∀a b,e a b->c.n a b):W f c:=by
 obtain⟨g,a,b,h,d⟩:=i;refine⟨g,a,b,h,?_⟩;cases g with
 |normal=>exact j a b d
 |exit k=>exact d
 |ret=>exact d
def RZ{g:Out}{d:iS}(e:fW->H->Prop)(i:W g (yr (λb a=>b.tmps= .nil/\e b.vars a) d))(j:∀c a,e c a->d.n ⟨c,.nil⟩ a):W g d:=
 acD i λb a ⟨h,f⟩=>by obtain⟨c,k⟩:=b;simp only at h f;subst h;exact j c a f
def ll{f:Bool}{g h:Code}{b:Env}{a:H}{d:iS}(c:fW->H->Prop)(k:f=true->W (jy cx cf n mask dl g b a) (yr (λb a=>b.tmps= .nil/\c b.vars a) d))(l:f=false->W (jy cx cf n mask dl h b a) (yr (λb a=>b.tmps= .nil/\c b.vars a) d))
 (i:∀j a,c j a->d.n ⟨j,.nil⟩ a):CK (some (.bool f)) cx cf n mask dl g h b a d:=by
 refine ej (λe=>?_) (λe=>?_)
 ·exact RZ c (k e) i
 ·exact RZ c (l e) i
end
end
section
@[simp]def ags (a:Nat):(a=a+1)=False:=dy 
@[simp]def agr (a:Nat):(a=a+1+1)=False:=dz 
@[simp]def agq (a:Nat):(a=a+1+1+1)=False:=dz 
@[simp]def agp (a:Nat):(a=a+1+1+1+1)=False:=dz 
@[simp]def ago (a:Nat):(a=a+1+1+1+1+1)=False:=dz 
def Kw{c:H}{b:T}{d:List T}(a:c.jw b=some d)(f:iY):(c.cons f).jw b=some d:=by
 cases b<;>first|exact a|(simp[H.jw]at a;done)|skip
 rename_i g h k j i;rw[ig]at a|-;obtain⟨l,e,_⟩:=dI.1 a;rw[dS,aq (by have:=H.fh e;omega)];exact a
def kq{cx:Ctx}{a:H}{sz:Nat}(D:il 0 a){g h f:ab}{m n b:Ty}(s:cx.ty g=some m)(t:m.u= .slice f)(v:cx.ty f=some b)(w:cx.ty h=some n)(y:n.u= .slice f)(j:b.size=sz)(A:1<=b.bytes)
 {x:T} {xs:List T} (C:a.jw x=some xs) (k:∀q∈xs,q.cells.length=sz) (F:xs.length*b.bytes<=70368744177664):
 ∃i d,iU cx (a.cons ⟨sz,0,0,true,false,[]⟩) g h (.arr a.size 0 0 0 false) x=some (.val (.arr a.size i 0 xs.length false) d)/\(∃E r,d.get a.size=some ⟨sz,i,E,r,false,xs⟩)/\d.size=a.size+1/\(∀c,c<a.size->d.get c=a.get c)/\il 0 d:=by
 have z:iU cx (a.cons ⟨sz,0,0,true,false,[]⟩) g h (.arr a.size 0 0 0 false) x=jI ((a.cons ⟨sz,0,0,true,false,[]⟩).append b.size b.bytes (.arr a.size 0 0 0 false) xs):=by
  unfold iU pX nc;rw[s,ed,w,ed];simp only[t,v,y,Kw C,ed];rw[j,nq k,iH]
 rw[z,j];have l:=D.cons ⟨sz,0,0,true,false,[]⟩;have e:(a.cons ⟨sz,0,0,true,false,[]⟩).get a.size=some ⟨sz,0,0,true,false,[]⟩:=dy;cases xs with
 |nil=>exact⟨0,a.cons ⟨sz,0,0,true,false,[]⟩,rfl,⟨0,true,e⟩,rfl,λc B=>by rw[dS,aq J],l⟩
 |cons o p=>
  refine⟨1,dZ (a.cons ⟨sz,0,0,true,false,[]⟩) a.size ⟨sz,1,1,false,false,o::p⟩,?_,⟨1,false,by rw[dN e,ar rfl]⟩,by rw[fK];rfl,λc B=>by rw[dN e,aq J,dS,aq J],l.put _ _⟩;show jI ((a.cons ⟨sz,0,0,true,false,[]⟩).mN sz b.bytes a.size 0 ([]:List T).length (o::p))=_;rw[wW e k A (by grind)];rfl
def pY(c:H)(d:Nat)(b:T)(a:List T):Prop:=b=sl a\/Gr c b d a
def pY.jw{b:H}{e:Nat}{c:T}{a:List T}(d:pY b e c a):b.jw c=some a:=by
 rcases d with rfl|g
 ·simp
 ·exact g.jw
def pY.mono{d h':H}{e:Nat}{b:T}{c:List T}(h:pY d e b c)(g:∀a,dT b=some a->h'.get a=d.get a):pY h' e b c:=h.imp id λf=>f.mono g
def pY.len{cx:Ctx}{f:H}{j:Nat}{e:T}{c:List T}(i:pY f j e c)(a:H)(b:Ty)(d:ab)(h:b.u= .slice d):EY cx a b e=some (.val (.int .i64 c.length) a):=by
 rcases i with rfl|g
 ·simp_all
 ·exact g.len a b d h
theorem pY.iy{c:H}{e:Nat}{a:T}{b:List T}(d:pY c e a b):a.iy=true/\a.cells=[a]:=by
 rcases d with rfl|g
 ·cases b<;>exact⟨rfl,rfl⟩
 ·exact⟨g.iy,g.cells⟩
def pY.idx{b:H}{e:T}{a:List T}(m:pY b 1 e a){te:Ty}(l:te.size=1)(j:te.isAgg=false){i:Nat}{x:T}(k:a[i]? =some x)(r:x.cells=[x]):∃d,kK b te e i=some (.val d b)/\b.load te d=some x:=by
 have hr:kw te [x]=some x:=by unfold kw;rw[j];rfl
 have c:i<a.length:=by
  grind
 rcases m with rfl|g
 ·simp_all
 ·have⟨n,p,s,q,t,_,f,h,o⟩:=g.Bp l c;refine⟨_,f,?_⟩;have:a[i]=x:=by rw[az c]at k;grind
  rw[Xf,h];simp_all
def pY.ft{h:H}{V:Nat->Prop}{q d:Nat}{f:T}{b:List T}(p:pY h q f b)(e:∀a∈b,cn a=a/\j2 a=true/\∀k,a≠ .agg k)(i:∀c,dT f=some c->V c):FT h V (d+2) f (sl b):=by
 rcases p with rfl|g
 ·grind [pF]
 ·have j:=g.jw;rcases g with⟨rfl,rfl⟩|⟨c,l,v,s,w,rfl,m,n⟩
  ·simp[jl]
  ·refine .inr (.inl ⟨c,l,0,_,false,b,b,rfl,i c rfl,j,?_,rfl⟩);clear j i n m;induction b with
   |nil=>exact .nil
   |cons a u o=>exact .cons (.inl ⟨(e a dy).2.1,(e a dy).2.2,(e a dy).1.symm⟩) (o λr t=>e r (by grind))
structure Nb(h h':H):Prop where
 ok:il h.size h'
 get:∀c,c<h.size->h'.get c=h.get c
def Nb.refl{a:H}(b:il 0 a):Nb a a:=⟨⟨b.hp,b.low,aw _⟩,λ_ _=>rfl⟩
def Nb.trans{d e f:H}(b:Nb d e)(a:Nb e f):Nb d f:=⟨⟨a.ok.hp,a.ok.low,aT b.ok.sz a.ok.sz⟩,λc g=>(a.get c (bD g b.ok.sz)).trans (b.get c g)⟩
theorem Nb.cons{b c:H}(a:Nb b c)(d:iY):Nb b (c.cons d):=⟨a.ok.cons d,λe f=>by rw[dS,aq (by have:=a.ok.sz;omega)];exact a.get e f⟩
theorem Nb.put{b d:H}(e:Nb b d){a:Nat}{x:iY}(h:d.get a=some x)(i:b.size<=a)(f:iY):Nb b (dZ d a f):=⟨e.ok.put a f,λc g=>by rw[dN h,aq J];exact e.get c g⟩
def Nb.step{b f:H}(a:Nb b f){d:Nat}(g:d<b.size):Step d b f:=⟨a.ok,λe c _=>a.get e c,λe c=>by rw[iT (a.get d g)]at c;grind⟩
def Nb.hr{a d:H}(b:Nb (TI.hr a) d):Nb a d:=⟨b.ok,λc e=>(b.get c e).trans (ik a c)⟩
def Nb.out{h b:H}(c:Nb (TI.hr h) b):Nb h (md h b):=⟨c.ok.out h,λa d=>(fV h b a).trans ((c.get a d).trans (ik h a))⟩
def Gr.new{b:H}{a c ep ver:Nat}{ex:Bool}{es:List T}(d:b.get a=some ⟨c,ep,ver,ex,false,es⟩):Gr b (.arr a ep 0 es.length false) c es:= .inr ⟨a,ep,ver,ex,es,rfl,d,aK⟩
def ny.one{h:H}{w szw ver i0:Nat}{F:List (T×aa (Nat×List T))}(s:il 0 h)(i:h.get w=some ⟨szw,0,ver,true,false,[.agg (F.map (·.1))]⟩)(n:∀a∈F,Yv h szw a)(f:∀(b:Nat) d,F[b]? =some d->dT d.1≠none->b=i0):
 ny h w szw ver F/\∀c,Fp h w c->c=w\/∃a,F[i0]? =some a/\dT a.1=some c:=by
 refine⟨⟨s,i,n,λb r q d k l m c t u=>q ((f b d l (by rw[t];simp)).trans (f r k m (by rw[u];simp)).symm)⟩,λc e=>?_⟩;rcases e with e|⟨x,g,v,j,e⟩
 ·omega
 ·rw[i]at g;simp only[au]at g;subst g;simp only[fF,cN,cZ,bQ,T.cells]at j;obtain⟨a,o,rfl⟩:=List.mem_map.1 j;have⟨b,p⟩:=cF o;have:=f b a p (by rw[e];simp)
  grind
section
variable {cx:Ctx}{cf:jd}{mask:Nat}
@[simp low] theorem acW (n:aa Nat) (l:T) (j:af Oper) (a:List (Nat×Nat)) (f:aa Tmp) (h:List Oper) (b:Nat) (i:List (Nat×Nat)) (c:List (Nat×H×H)) (m k:fW) (g:H) (e:iS) (q:lL a b=false) (p:(c.all λd=> !AK a d.1 b)=true):DLK n l cx cf mask j a f h b i c m k g e=Sr l cx cf mask j a f h (b+1) i c m k g e:=by
 cases n with
 |none=>rfl
 |some o=>
  have hl:mR a b o c=True:=by
   simp only[eq_iff_iff,iff_true];intro d s r;have:=List.all_eq_true.1 p d s;rw[r]at this;grind
  rw[Sd,hl,q,true_and];rfl
end
def JO{a x:T}(c:∀b,a≠ .agg b):mG a 0 [x]=some x:=by
 cases a<;>first|rfl|grind
def pY.na{d:H}{f:Nat}{b:T}{a:List T}(e:pY d f b a):∀c,b≠ .agg c:=by
 rcases e with rfl|g
 ·cases a<;>simp[sl]
 ·rcases g with⟨rfl,_⟩|⟨h,i,k,j,l,rfl,_⟩<;>simp
def Gr.setAt{j h':H}{f:T}{k a l b s ver2:Nat}{n ex2:Bool}{i h:List T}(o:Gr j f k i)(d:dT f=some a)(q:j.get a=some ⟨l,b,s,n,false,h⟩)(e:Nat)(g:T)(r:h'.get a=some ⟨l,b,ver2,ex2,false,h.set e g⟩):Gr h' f k (i.set e g):=by
 rcases o with⟨rfl,_⟩|⟨m,t,v,u,w,rfl,c,p⟩
 ·simp at d
 ·simp only[A2,au]at d;subst d;rw[q]at c;simp only[au,iY.mk.injEq]at c;obtain⟨rfl,rfl,rfl,rfl,_,rfl⟩:=c;exact .inr ⟨m,b,ver2,ex2,h.set e g,by rw[cR],r,by rw[cR,List.take_set,p]⟩
def iM.set{d e:Type}{f c:d->e->Prop}{i:List d}{j:List e}(b:iM f i j)(a:Nat){k:d}{l:e}(m:c k l)(h:∀b g,f b g->c b g):iM c (i.set a k) (j.set a l):=by
 induction b generalizing a with
 |nil=>exact .nil
 |cons o p n=>
  cases a with
  |zero=>exact .cons m (p.imp h)
  |succ a=>exact .cons (h _ _ o) (n a)
def iM.Xb{b c j:Type}{d:b->c->Prop}{e:b->j->Prop}{f:c->j}{h:List b}{i:List c}(a:iM d h i)(k:∀a g,d a g->e a (f g)):iM e h (i.map f):=by
 induction a with
 |nil=>exact .nil
 |cons m n l=>exact .cons (k _ _ m) l
def FT.tup{c:H}{f:Nat->Prop}{d h:Nat}(k:h<=11)(j:∀a,f a->d<=a){b g:List T}(l:iM (FT c f h) b g)(a:Bool):∃i,jn c d (.tuple [.agg b,.bool a])=some i/\cn i= .tuple [.agg g,.bool a]:=by
 have⟨r0,e,n⟩:=FT.top k j l;refine⟨.tuple [r0,.bool a],?_,?_⟩
 ·have e:ky c d (.agg b)=some r0:=e;show(dV (fQ (ky c d) [.agg b,.bool a]) λm=>some (T.tuple m))=_;rw[jK,e];rfl
 simp_all[uI]
def Gr.ft{c:H}{V:Nat->Prop}{e:T}{m d:Nat}{a b:List T}(i:Gr c e m a)(k:∀h,dT e=some h->V h)(f:iM (FT c V d) a b):FT c V (d+1) e (sl b):=by
 have l:=i.jw;rcases i with⟨rfl,rfl⟩|⟨g,j,q,n,r,rfl,o,p⟩
 ·cases f;simp[jl]
 ·exact .inr (.inl ⟨g,j,0,_,false,a,b,rfl,k g rfl,l,f,rfl⟩)
def Gr.at{f:H}{h x:T}{g i:Nat}{a:List T}(k:Gr f h g a)(o:a[i]? =some x):∃b c j e d,h= .arr b c 0 a.length false/\f.get b=some ⟨g,c,j,e,false,d⟩/\d[i]? =some x/\i<a.length:=by
 have n:i<a.length:=by
  grind
 rcases k with⟨rfl,rfl⟩|⟨b,c,j,e,d,rfl,l,m⟩
 ·grind
 grind
def pY.rS{b:H}{j:Nat}{e:Type}{f:e->T}{d:T}{c:List e}(i:pY b j d (c.map f))(k:∀a,cn (f a)=f a)(h:∀a,xS b 11 (f a)=some (f a)):TI.rS b d=some (sl (c.map f)):=by
 rcases i with rfl|g
 ·simp_all
 ·exact g.rS h
def nd{b:H}{a c:Nat}{f:iY}(e:b.get a=some f)(d:c≠a)(g:iY):fk b (dZ b a g) c=true:=fG (by rw[dN e,aq d])
def mL{c:H}{b:Nat}(f:Hp c)(e:b<c.size)(d:iY)(a:Nat):(dZ c b d).get a=if a=b then some d else c.get a:=get_put f e d a
@[simp]def agA (a:Nat):(a<a+1+1)=True:=dz 
@[simp]def agz (a:Nat):(a<a+1+1+1)=True:=dz 
@[simp]def agy (a:Nat):(a<a+1+1+1+1)=True:=dz 
@[simp high] theorem afC {e:ai} {cx:Ctx} (d:fJ) (b:aj) (a:List T) (c:H) (g:d.p b=none):qZ e cx d b a c=hl e cx d b a c:=by
 unfold qZ;cases RO c a with
 |none=>rfl
 |some f=>grind [Ck]
def jf{b c:H}{a:Nat}(d:b.get a=none):fk b c a=true:=by unfold fk;rw[d]
def lz(b:H){a:Nat}(d:b.size<=a):b.get a=none:=by
 cases c:b.get a with
 |none=>rfl
 |some e=>have:=H.fh c;omega
def Gr.Ht{cx:Ctx}{a:H}{h:T}{b:Nat}{f:List T}(q:Gr a h b f)(l:il 0 a){g i:ab}{m d:Ty}(j:cx.ty g=some m)(k:m.u= .slice i)(r:cx.ty i=some d)(t:d.size=b)(s:1<=d.bytes){x:T}(w:x.cells.length=b)(v:(f.length+1)*d.bytes<=70368744177664):
 ∃e c,iU cx (a.cons ⟨b,0,0,true,false,[x]⟩) g g h (.arr a.size 0 0 1 false)=some (.val e c)/\Xt a h b (f++[x]) e c:=by
 have n:=(Xt.refl q l).cons ⟨b,0,0,true,false,[x]⟩;have⟨e,c,p,o⟩:=Gr.app (cx:=cx) n.1 (l.cons _) (x:= .arr a.size 0 0 1 false) (xs:=[x]) j k r j k t s (by rw[ig];simp) (by grind) dy J;exact⟨e,c,p,n.trans o.xt⟩
end
end
end Go.TI
namespace Go.Proofs.YtajpdafdickapaaGreatDoor
noncomputable section
open Go Go.TI Tryz
attribute [-simp] List.map_take List.map_drop List.map_append fy fa eg Bool.not_or Bool.not_and
attribute [simp] fw fc
section
attribute [-simp] size_cons
abbrev ge(a:List Int):List T:=a.map (T.int .i64)
def tn1(a:List Int):T:=sl (a.map (T.int .i64))
def Tv(e d:Nat)(b c:T)(a:Nat):Prop:=e<=a/\a<d/\dT b≠some a/\dT c≠some a
structure BC(lo hi:Nat)(h:H)(a b:T)(es:List T)(s:eJ):Prop where
 ga:Gr h a 1 (ge s.iZ)
 gb:Gr h b 1 es
 el:iM (λe l=>pY h 1 e (ge l)/\∀c,dT e=some c->Tv lo hi a b c) es s.kf
 ba:∀c,dT a=some c->lo<=c/\c<hi/\dT b≠some c
 bb:∀c,dT b=some c->lo<=c/\c<hi
def Ci(a:eJ)(b c:T):T:= .agg [Z a.pC,b,c,Z a.dL]
structure TSr(h:H)(a b:T)(es:List T)(s:eJ):Prop where
 ra:pY h 1 a (ge s.iZ)
 rb:pY h 1 b es
 el:iM (λe l=>pY h 1 e (ge l)) es s.kf
 lt:∀e c,(e=a\/e=b\/e∈es)->dT e=some c->c<h.size
structure ICp where
 (s:eJ) (a b:T) (es:List T)
def Pm(c:ICp)(e:List T)(d:H):Prop:=e=[Ci c.s c.a c.b]/\TSr d c.a c.b c.es c.s/\il 0 d/\c.s.iZ.length<=1000000/\c.s.kf.length<=1000000/\∀f∈c.s.kf,f.length<=1000000
def JY(e:ICp)(h:List T)(d:H)(g:T)(a:H):Prop:=∃b c f,g=Ci e.s b c/\BC d.size a.size a b c f e.s/\Nb d a
structure CpS(s:eJ)(a b aN:T)(h h':H)(i:Nat):Prop where
 ex:∃ver c es',ny h' (h.size+1+1+1) 4 ver [(Z s.pC,none),(aN,some (1,ge s.iZ)),(c,some (1,es')),(Z s.dL,none)]/\es'.length=i/\
  iM (λe l=>pY h' 1 e (ge l)/\∀k,dT e=some k->h.size+1<k/\k<h'.size/\¬Fp h' (h.size+1+1+1) k) es' (s.kf.take i)
 nb:Nb h h'
 l1:Lb (h.size+1+1+1) h' h.size (dE 4 0 [.agg [Z s.pC,a,b,Z s.dL]])
 l2:Lb (h.size+1+1+1) h' (h.size+1) (dE 4 0 [.agg [Z 0,dD,dD,Z 0]])
 lo:∀c,Fp h' (h.size+1+1+1) c->h.size+1<c
def Io:(jM ICp Pm JY).Ok prog cx 219:=by
 refine jB (tb:=⟨pt [],ht []⟩) iR iE (iX 262175 [(1,[(1,7),(3,7),(7,9)]),(5,[(1,8)])] func219) (λ_ _=>1000005) (λC z h dm=>by obtain⟨rfl,_⟩:=dm;simp[f219]) ?_;rintro⟨b,z,l,S⟩ _ h ⟨rfl,v,bN,hr,ds,bC⟩ D M;simp only at v hr ds bC;simp[Ci]at M;have bS:=bN.hr;have O:∀t a,(t=z\/t=l\/t∈S)->dT t=some a->a<h.size:=v.lt;have⟨o,A⟩:∃o:H,o=((TI.hr h).cons (dE 4 0 [.agg [Z b.pC,z,l,Z b.dL]])).cons (dE 4 0 [.agg [Z 0,dD,dD,Z 0]]):=⟨_,rfl⟩;have ec:il 0 o:=by subst A;exact(bS.cons _).cons _
 have cb:o.size=h.size+1+1:=by subst A;rfl
 have bH:Nb (TI.hr h) o:=by subst A;exact((Nb.refl bS).cons _).cons _
 have c6:o.get h.size=some (dE 4 0 [.agg [Z b.pC,z,l,Z b.dL]]):=by subst A;simp
 have c7:o.get (h.size+1)=some (dE 4 0 [.agg [Z 0,dD,dD,Z 0]]):=by subst A;simp
 have eo:pY o 1 z (ge b.iZ):=v.ra.mono λa c=>(bH.get a (O z a (.inl rfl) c)).trans (ik h a);have⟨c1,m,K,⟨eS,eD,gA⟩,X,r,s⟩:=kq (cx:=cx) ec pi rfl zR pi rfl rfl dy eo.jw (by simp[T.cells]) dz;simp[A]at K;have eN:h.low<=h.size:=bN.low;have Q:∀l,l<o.size->fk (o.cons (dE 1 0 [])) m l=true:=λl de=>fG ((r l de).trans (by rw[dS,aq J]));have ca:fk (o.cons (dE 1 0 [])) m m.size=true:=jf (lz _ dz);rw[cb]at Q;replace Q:=Q h.size J;rw[A]at Q ca;simp[f219,M,K,Q,ca];have a6:m.size=h.size+1+1+1:=J;simp only[a6];generalize bn:T.arr (h.size+1+1) c1 0 b.iZ.length false=n;have gN:Gr m n 1 (ge b.iZ):=by rw[<-bn];have:=Gr.new gA;rw[cb]at this;simpa using this
 have a7:∀a,dT n=some a->a=h.size+1+1:=λa c=>by rw[<-bn]at c;simp at c;exact c.symm
 have eP:il 0 m:=s;refine fD b.kf.length J (λC D g=>CpS b z l n h g C/\dF D 1 (.ptr h.size 0 0 0)/\dF D 2 (.ptr (h.size+1) 0 0 0)/\dF D 3 (.ptr (h.size+1+1+1) 0 0 0)/\dF D 4 (Z C)) ?_ ?_ J ?_
 ·rintro C D g bB dd ⟨⟨⟨ver,a,E,e,bu,R⟩,q,l1,l2,N⟩,m,ae,al,an⟩;have G:=e.get;simp at G;have er:∀x,pY (g.cons x) 1 l S:=λx=>v.rb.mono λa c=>by have:=O l a (.inr (.inl rfl)) c;rw[dS,aq (by have:=q.ok.sz;omega)];exact q.get a this
  have ap:=v.el.length;have av:=(show pY g 1 l S from v.rb.mono λa c=>q.get a (O l a (.inr (.inl rfl)) c)).len (cx:=cx) g Oy _ rfl;have⟨u,hl⟩:∃u,b.kf[C]? =some u:=⟨_,az bB⟩;have di:=ay hl;have⟨t,bs,b6⟩:=v.el.get hl;have et:pY g 1 t (ge u):=b6.mono λa c=>q.get a (O t a (.inr (.inr (ay bs))) c);have⟨p,cp,cL⟩:=(er (dE 1 0 [])).idx (te:=qm) rfl rfl bs b6.iy.2;have ef:il 0 g:=e.ok;have⟨bi,L,K,⟨eU,eE,gA⟩,X,r,s⟩:=kq (cx:=cx) ef j9 rfl mY j9 rfl rfl dy et.jw (by simp[T.cells]) (by have:=bC u di;simp;omega);have eB:Step (h.size+1+1+1) g L:=(Nb.mk ⟨s.hp,s.low,J⟩ r:Nb g L).step e.lt;have b7:=e.step s λa c=>r a (e.fp a c);have⟨eC,eL,a8,aX⟩:=(b7.gr 2 rfl).Ht (cx:=cx) s XL rfl j9 rfl dy (x:= .arr g.size bi 0 (ge u).length false) rfl dz;have⟨bT,eR,eh⟩:=b7.app 2 rfl aX;have⟨P,b8⟩:=eh _ rfl;simp at bT P b8;simp[X]at K a8;have eA:∀a,a<g.size->fk (g.cons (dE 1 0 [])) L a=true:=λa c=>fG ((r a c).trans (by rw[dS,aq J]));have ea:(h.size=g.size)=False:=by have:=l1.lt;simp;omega
  have eO:(h.size+1+1+1=g.size)=False:=by have:=e.lt;simp;omega
  have ey:=eA _ e.lt;have eF:=(r _ e.lt).trans G;simp[m,ae,al,an,l1.get,G,av,ap,bB,cp,cL,K,X,a8,bT,ea,ey,dX,aX.1.iy,aX.1.cells,dd];have y:=eB.trans P;have eM:=y.ok.sz;have eI:L.size=g.size+1:=X;refine⟨⟨_,eC,E++[.arr g.size bi 0 u.length false],b8,by simp[bu],?_⟩,?_,l1.step y,l2.step y,λa c=>?_⟩
  ·have dn:b.kf.take (C+1)=b.kf.take C++[u]:=by
    rw[dq,hl];rfl
   rw[dn];refine iM.append (R.imp λt u k=>⟨k.1.mono λd i=>?_,λd i=>?_⟩) (.cons ⟨.inr ?_,λd i=>?_⟩ .nil)
   ·have⟨aA,U,I⟩:=k.2 d i;exact y.get d U I
   ·have⟨aA,U,I⟩:=k.2 d i;exact⟨aA,J,λf=>(y.fp d f).elim I λf=>by omega⟩
   ·have B:¬Fp L (h.size+1+1+1) g.size:=λf=>by
     rw[iT (r _ e.lt)]at f;have:=e.fp _ f;omega
    have:=Gr.new ((P.get g.size J B).trans gA);simpa using this
   ·simp at i;subst i;refine⟨by have:=l2.lt;omega,by have:=P.ok.sz;omega,λf=>?_⟩;rcases P.fp _ f with f|f
    ·rw[iT (r _ e.lt)]at f;have:=e.fp _ f;omega
    ·omega
  ·refine⟨⟨y.ok.hp,y.ok.low,by have:=q.ok.sz;omega⟩,λa c=>?_⟩;exact(y.get a (by have:=q.ok.sz;omega) λf=>by have:=N a f;omega).trans (q.get a c)
  ·rcases y.fp a c with f|f
   ·exact N a f
   ·have:=l2.lt;omega
 ·rintro D g ⟨⟨⟨ver,a,E,e,bu,R⟩,q,l1,l2,N⟩,m,ae,al,an⟩;have G:=e.get;simp at G;have ap:=v.el.length;have av:=(show pY g 1 l S from v.rb.mono λa c=>q.get a (O l a (.inr (.inl rfl)) c)).len (cx:=cx) g Oy _ rfl;rw[aK]at R;have c9:∀W,(dZ g (h.size+1) W).get (h.size+1)=some W:=λW=>(dN l2.get W _).trans (ar rfl);have V:=e.qx l2 (dE 4 1 [.agg [Z b.pC,n,a,Z b.dL]]);simp[m,ae,al,an,l1.get,l2.get,G,av,ap,dX,c9];have b9:=V.step (V.ok.out h) λa _=>fV h _ a;have dk:∀d,h.size+1<d->(dZ g (h.size+1) (dE 4 1 [.agg [Z b.pC,n,a,Z b.dL]])).get d=g.get d:=λd i=>by rw[dN l2.get,aq J]
  have eH:=e.gr 2 rfl;have aE:(n,some (1,ge b.iZ))∈ [((Z b.pC:T),(none:aa (Nat×List T))),(n,some (1,ge b.iZ)),(a,some (1,E)),(Z b.dL,none)]:=dy;have aN:(a,some (1,E))∈ [((Z b.pC:T),(none:aa (Nat×List T))),(n,some (1,ge b.iZ)),(a,some (1,E)),(Z b.dL,none)]:=dy;refine⟨n,a,E,rfl,⟨b9.gr 1 rfl,b9.gr 2 rfl,R.imp λt u k=>⟨k.1.mono λd i=>?_,λd i=>?_⟩,λd i=>?_,λd i=>?_⟩,⟨⟨(V.ok.out h).hp,(V.ok.out h).low,by simp;exact q.ok.sz⟩,λd i=>?_⟩⟩
  ·rw[fV];exact dk d (k.2 d i).1
  ·have⟨aA,U,I⟩:=k.2 d i;exact⟨J,by simpa using U,λk=>I (e.Cu aE k),λk=>I (e.Cu aN k)⟩
  ·have:=e.fp d (e.Cu aE i);have:=N d (e.Cu aE i);exact⟨J,by simpa,e.VI 1 2 dB _ _ rfl rfl d i⟩
  ·have:=e.fp d (e.Cu aN i);have:=N d (e.Cu aN i);exact⟨J,by simpa⟩
  ·rw[fV,dN l2.get,aq J];exact q.get d i
 ·have dv:m.low<=h.size+1+1+1:=by have:=s.low;omega
  have eb:Nb h m:=⟨⟨s.hp,s.low,J⟩,λa c=>(r a J).trans ((bH.get a c).trans (ik h a))⟩;have⟨eu,c4⟩:=ny.one (i0:=1) (h:=m.cons (dE 4 1 [.agg [Z b.pC,n,dD,Z b.dL]])) (w:=h.size+1+1+1) (szw:=4) (ver:=1) (F:=[(Z b.pC,none),(n,some (1,ge b.iZ)),(dD,some (1,[])),(Z b.dL,none)]) (s.cons _) (by simp[a6]) (λf B=>by
   simp only[bZ,cG,or_false]at B;rcases B with rfl|rfl|rfl|rfl
   ·show dT _=none;simp
   ·exact⟨gN.mono λa c=>by rw[a7 a c,dS,aq J],show(1:Nat)≠4 by decide⟩
   ·exact⟨Gr.nil _ _,dB⟩
   ·show dT _=none;simp) (λj z M k=>by
   rcases j with _|_|_|_|j<;>simp at M<;>subst M<;>simp at k|-)
  have Y:∀a,Fp (m.cons (dE 4 1 [.agg [Z b.pC,n,dD,Z b.dL]])) (h.size+1+1+1) a->h.size+1<a:=λa c=>by
   rcases c4 a c with k|⟨f,B,k⟩
   ·omega
   ·simp at B;subst B;have:=a7 a k;omega
  simp[a6,dv];refine⟨⟨_,_,[],eu,rfl,.nil⟩,eb.cons _,⟨?_,λk=>?_⟩,⟨?_,λk=>?_⟩,Y⟩
  ·rw[dS,aq J];exact(r h.size J).trans c6
  ·have:=Y _ k;omega
  ·rw[dS,aq J];exact(r (h.size+1) J).trans c7
  ·have:=Y _ k;omega
def Uy(b c:H)(d:T)(e:List Int):Prop:=pY c 1 d (ge e)/\Nb b c/\∀a,dT d=some a->b.size<=a
structure IUn where
 (x y:List Int) (u v:T)
def Pf(a:IUn)(c:List T)(b:H):Prop:=c=[a.u,a.v]/\pY b 1 a.u (ge a.x)/\pY b 1 a.v (ge a.y)/\a.x.length+a.y.length<=10000000/\il 0 b
def JW(a:IUn)(e:List T)(b:H)(d:T)(c:H):Prop:=Uy b c d (Aq a.x a.y)
def Pl(b:T)(a:List Int):Prop:=(b= dD/\a=[])\/b=sl (ge a)
def Pl.rS{a:T}{b:List Int}(d:Pl a b)(c:H):rS c a=some (sl (ge b))/\j2 a=true/\a.iy=true:=by
 rcases d with⟨rfl,rfl⟩|rfl<;>simp
def Pl.rd{a:T}{b:List Int}(d:Pl a b)(c:H):pY c 1 a (ge b)/\dT a=none:=by
 rcases d with⟨rfl,rfl⟩|rfl
 ·exact⟨.inr (Gr.nil _ _),rfl⟩
 ·exact⟨.inl rfl,dy⟩
def Ic:(jM IUn Pf JW).Ok prog cx 95:=by
 refine jB (tb:=⟨pt [(70,ET)],ht []⟩) iR iE (iX 8390899 [] func95) (λ_ _=>10000005) (λi O b L=>by obtain⟨rfl,_⟩:=L;simp[f95]) ?_;rintro⟨x,g,H,A⟩ _ b ⟨rfl,D,F,hl,M⟩ c B;simp only at D F hl;simp at B;obtain⟨k,d⟩:=B;have E:pY (hr b) 1 H (ge x):=D.mono λl _=>ik b l;have G:pY (hr b) 1 A (ge g):=F.mono λl _=>ik b l;have y:=E.len (cx:=cx) (hr b) qm _ rfl;have z:=G.len (cx:=cx) (hr b) qm _ rfl;rw[aH]at y z;simp[f95];refine fD x.length J (λa c s=>s=hr b/\dF c 0 H/\dF c 1 A/\dF c 6 (Z a)/\∃f,dF c 5 f/\Pl f (mc [] (x.take a))) ?_ ?_ J (by simp[k,d];exact .inl ⟨rfl,rfl⟩)
 ·rintro a c _ j v ⟨rfl,k,d,t,f,h,e⟩;have⟨N,m,n⟩:=E.idx (te:=EM) rfl rfl (i:=a) (x:= Z x[a]) (by simp[j]) rfl;have w:=yl [] (x.take a);simp at w;have⟨q,r,I⟩:=e.rS (hr b);have o:=λ{tb:fJ} (ht:tb.p 70=some ET)=>X3 ht (mc [] (x.take a)) x[a] J;simp[k,d,h,t,y,j,v,m,n,q,r,o,Bg [] x j];exact .inr rfl
 ·rintro c _ ⟨rfl,k,d,t,f,h,e⟩;rw[aK]at e;simp[k,t,y];refine fD g.length J (λa c s=>s=hr b/\dF c 1 A/\dF c 7 (Z a)/\∃f,dF c 5 f/\Pl f (mc (mc [] x) (g.take a))) ?_ ?_ J (by simp[d,h];exact e)
  ·rintro a c _ j v ⟨rfl,d,u,f,h,e⟩;have⟨N,m,n⟩:=G.idx (te:=EM) rfl rfl (i:=a) (x:= Z g[a]) (by simp[j]) rfl;have w:=yl (mc [] x) (g.take a);have K:=yl [] x;simp at w K;have⟨q,r,I⟩:=e.rS (hr b);have o:=λ{tb:fJ} (ht:tb.p 70=some ET)=>X3 ht (mc (mc [] x) (g.take a)) g[a] J;simp[d,h,u,z,j,v,m,n,q,r,o,Bg (mc [] x) g j];exact .inr rfl
  ·rintro c _ ⟨rfl,d,u,f,h,e⟩;rw[aK]at e;simp[d,h,u,z];have⟨r1,r2⟩:=e.rd (md b (hr b));exact⟨r1,(Nb.refl M.hr).out,λl C=>by rw[r2]at C;simp at C⟩
def Lk(f:H)(d:Nat->Prop)(e:T)(c:dR):Prop:=∃a,e= .agg [Z c.iB,a]/\pY f 1 a (ge c.ew)/\∀b,dT a=some b->d b
structure Cf(lo hi:Nat)(h:H)(c0 c2 c3:T)(es:List T)(S:fq):Prop where
 g0:Gr h c0 2 es
 g2:Gr h c2 1 (S.done.map T.bool)
 g3:Gr h c3 3 (S.dH.map dJ.t)
 el:iM (Lk h λc=>lo<=c/\c<hi/\dT c0≠some c/\dT c2≠some c/\dT c3≠some c) es S.ei
 b:∀c,(dT c0=some c\/dT c2=some c\/dT c3=some c)->lo<=c/\c<hi
def MQ(a:fq)(b c d:T):T:= .agg [b,Z a.tx,c,d]
def Ft(a:fq)(b:List T)(c:H):Prop:=b=[a.t]/\il 0 c/\a.ei.length<=1000000/\a.done.length<=1000000/\a.dH.length<=1000000/\∀d∈a.ei,d.ew.length<=1000000
def JZ(b:fq)(i:List T)(f:H)(h:T)(a:H):Prop:=∃c d e g,h=MQ b c d e/\Cf f.size a.size a c d e g b/\Nb f a
structure C8(S:fq)(c2 c3:T)(h h':H)(i:Nat):Prop where
 ex:∃ver c0 es,ny h' (h.size+1+1+1+1) 4 ver [(c0,some (2,es)),(Z S.tx,none),(c2,some (1,S.done.map T.bool)),(c3,some (3,S.dH.map dJ.t))]/\es.length=i/\
  iM (Lk h' λk=>h.size+1<k/\k<h'.size/\¬Fp h' (h.size+1+1+1+1) k) es (S.ei.take i)
 nb:Nb h h'
 l1:Lb (h.size+1+1+1+1) h' h.size (dE 4 0 [S.t])
 l2:Lb (h.size+1+1+1+1) h' (h.size+1) (dE 4 0 [.agg [dD,Z 0,dD,dD]])
 lo:∀c,Fp h' (h.size+1+1+1+1) c->h.size+1<c
def Du:(jM fq Ft JZ).Ok prog cx 46:=by
 refine jB (tb:=⟨pt [],ht []⟩) iR iE (iX 1048607 [(1,[(1,5),(5,6),(5,8),(1,9),(5,11),(9,11)]),(5,[(1,15),(3,15),(5,15),(7,15)])] func46) (λ_ _=>1000005) (λz I b ey=>by obtain⟨rfl,_⟩:=ey;simp[f46]) ?_;rintro c _ b ⟨rfl,eF,hl,e5,ht,hr⟩ G D;simp at D;have bH:=eF.hr;have⟨p,C⟩:∃p:H,p=((TI.hr b).cons (dE 4 0 [c.t])).cons (dE 4 0 [.agg [dD,Z 0,dD,dD]]):=⟨_,rfl⟩;have eH:il 0 p:=by subst C;exact(bH.cons _).cons _
 have eU:p.size=b.size+1+1:=by subst C;rfl
 have eE:Nb b p:=by subst C;exact⟨(((Nb.refl bH).cons _).cons _).ok,λa h=>((((Nb.refl bH).cons _).cons _).get a h).trans (ik b a)⟩
 have cL:p.get b.size=some (dE 4 0 [c.t]):=by subst C;simp
 have ec:p.get (b.size+1)=some (dE 4 0 [.agg [dD,Z 0,dD,dD]]):=by subst C;simp
 have⟨bi,o,K,⟨fe,eV,gA⟩,a6,m,Q⟩:=kq (cx:=cx) eH (x:=sl (c.done.map T.bool)) (xs:=c.done.map T.bool) AZ rfl L4 AZ rfl rfl dy dy (λe er=>by obtain⟨n,_,rfl⟩:=List.mem_map.1 er;rfl) dz;have⟨M,k,L,⟨eP,eb,c1⟩,ff,P,okB⟩:=kq (cx:=cx) Q (x:=sl (c.dH.map dJ.t)) (xs:=c.dH.map dJ.t) Em rfl Ha Em rfl rfl dy dy dy dz;have ca:o.size=b.size+1+1+1:=J;have Y:k.size=b.size+1+1+1+1:=J;have W:∀n,n<p.size->fk (p.cons (dE 1 0 [])) o n=true:=λn U=>fG ((m n U).trans (by rw[dS,aq J]));have di:∀n,n<o.size->fk (o.cons (dE 3 0 [])) k n=true:=λn U=>fG ((P n U).trans (by rw[dS,aq J]));have bT:=W b.size J;have dk:=di b.size J;have b7:fk (p.cons (dE 1 0 [])) o (b.size+1+1+1+1)=true:=jf (lz _ dz);have dm:fk (o.cons (dE 3 0 [])) k (b.size+1+1+1+1)=true:=jf (lz _ dz);have b6:fk (p.cons (dE 1 0 [])) o (b.size+1+1+1)=true:=jf (lz _ dz);have bs:=(m b.size J).trans cL;have eh:=(P b.size J).trans bs;simp[C]at K;simp[ca]at L;rw[C]at bT b6 b7;simp[f46,D,K,L,bT,b6,dk,b7,dm,bs,ca,Y];have dv:=(show Gr k (.arr (b.size+1+1) bi 0 c.done.length false) 1 (c.done.map T.bool)by
  have:=Gr.new ((P p.size J).trans gA);rw[eU]at this;simpa using this)
 have ea:=(show Gr k (.arr (b.size+1+1+1) M 0 c.dH.length false) 3 (c.dH.map dJ.t)by
  have:=Gr.new c1;rw[ca]at this;simpa using this)
 have eD:Nb b k:=⟨⟨okB.hp,okB.low,J⟩,λa h=>(P a J).trans ((m a J).trans (eE.get a h))⟩;have eR:=(P b.size J).trans ((m b.size J).trans cL);have eS:=(P (b.size+1) J).trans ((m (b.size+1) J).trans ec);have eB:k.low<=b.size+1+1+1+1:=by have:=okB.low;omega
 have cb:∀a,dT (.arr (b.size+1+1) bi 0 c.done.length false)=some a->a=b.size+1+1:=λa q=>by simpa using q.symm
 have cp:∀a,dT (.arr (b.size+1+1+1) M 0 c.dH.length false)=some a->a=b.size+1+1+1:=λa q=>by simpa using q.symm
 clear K L W di bT b6 b7 dk dm bs eh gA c1;generalize T.arr (b.size+1+1) bi 0 c.done.length false=r at*
 generalize T.arr (b.size+1+1+1) M 0 c.dH.length false=s at*
 refine fD c.ei.length J (λz G i=>C8 c r s b i z/\dF G 1 (.ptr b.size 0 0 0)/\dF G 2 (.ptr (b.size+1) 0 0 0)/\dF G 3 (.ptr (b.size+1+1+1+1) 0 0 0)/\dF G 4 (Z z)) ?_ ?_ J ?_
 ·rintro z G i av eo ⟨⟨⟨eO,A,B,d,c4,ae⟩,O,l1,l2,aE⟩,o,k,al,an⟩;have N:=d.get;simp at N;have⟨l,ap⟩:∃l,c.ei[z]? =some l:=⟨_,az av⟩;have e7:=hr l (ay ap);have⟨M,S,K,⟨eP,eb,gA⟩,a6,m,Q⟩:=kq (cx:=cx) d.ok (x:=sl (ge l.ew)) (xs:=ge l.ew) j9 rfl mY j9 rfl rfl dy dy (by simp[T.cells]) dz;have eM:Step (b.size+1+1+1+1) i S:=(Nb.mk ⟨Q.hp,Q.low,J⟩ m:Nb i S).step d.lt;have dn:=d.step Q λa h=>m a (d.fp a h);have⟨eN,e4,L,b9⟩:=(dn.gr 0 rfl).Ht (cx:=cx) Q KR rfl Hb rfl dy (x:= .agg [Z l.iB,.arr i.size M 0 (ge l.ew).length false]) rfl dz;have⟨aN,fb,bN⟩:=dn.app 0 rfl b9;have⟨X,ds⟩:=bN _ rfl;simp at aN X ds;simp[a6]at K L;have W:∀a,a<i.size->fk (i.cons (dE 1 0 [])) S a=true:=λa h=>fG ((m a h).trans (by rw[dS,aq J]));have eC:(b.size=i.size)=False:=by have:=l1.lt;simp;omega
  have e9:(b.size+1+1+1+1=i.size)=False:=by have:=d.lt;simp;omega
  have eI:=W _ d.lt;have eL:=W _ l1.lt;have eX:=(m _ d.lt).trans N;have eW:=(m _ l1.lt).trans l1.get;simp[o,al,an,l1.get,N,av];have eu:c.ei[z]=l:=by rw[az av]at ap;simpa using ap
  simp[o,k,al,an,av,eu,K,a6,L,aN,eC,eI,eL,dX,b9.1.iy,b9.1.cells,eo];have w:=eM.trans X;have e8:=w.ok.sz;have e0:S.size=i.size+1:=a6;refine⟨⟨_,eN,B++[.agg [Z l.iB,.arr i.size M 0 l.ew.length false]],ds,by simp[c4],?_⟩,?_,l1.step w,l2.step w,λa h=>?_⟩
  ·have eA:c.ei.take (z+1)=c.ei.take z++[l]:=by
    rw[dq,ap];rfl
   rw[eA];refine iM.append (ae.imp λe l ⟨bS,a7,a8,R⟩=>⟨bS,a7,a8.mono λg j=>?_,λg j=>?_⟩) (.cons ⟨_,rfl,.inr ?_,λg j=>?_⟩ .nil)
   ·have⟨bB,aA,F⟩:=R g j;exact w.get g aA F
   ·have⟨bB,aA,F⟩:=R g j;exact⟨bB,J,λf=>(w.fp g f).elim F λf=>by omega⟩
   ·have E:¬Fp S (b.size+1+1+1+1) i.size:=λf=>by
     rw[iT (m _ d.lt)]at f;have:=d.fp _ f;omega
    have:=Gr.new ((X.get i.size J E).trans gA);simpa using this
   ·simp at j;subst j;refine⟨by have:=l2.lt;omega,by have:=X.ok.sz;omega,λf=>?_⟩;rcases X.fp _ f with f|f
    ·rw[iT (m _ d.lt)]at f;have:=d.fp _ f;omega
    ·omega
  ·refine⟨⟨w.ok.hp,w.ok.low,by have:=O.ok.sz;omega⟩,λa h=>?_⟩;exact(w.get a (by have:=O.ok.sz;omega) λf=>by have:=aE a f;omega).trans (O.get a h)
  ·rcases w.fp a h with f|f
   ·exact aE a f
   ·have:=l2.lt;omega
 ·rintro G i ⟨⟨⟨eO,A,B,d,c4,ae⟩,O,l1,l2,aE⟩,o,k,al,an⟩;have N:=d.get;simp at N;rw[aK]at ae;have ef:∀y,(dZ i (b.size+1) y).get (b.size+1)=some y:=λy=>(dN l2.get y _).trans (ar rfl);have aX:=d.qx l2 (dE 4 1 [.agg [A,Z c.tx,r,s]]);simp[o,k,al,an,l1.get,l2.get,N,dX,ef];have b8:=aX.step (aX.ok.out b) λa _=>fV b _ a;have c7:(A,some (2,B))∈ [(A,some (2,B)),((Z c.tx:T),(none:aa (Nat×List T))),(r,some (1,c.done.map T.bool)),(s,some (3,c.dH.map dJ.t))]:=dy;have c9:(r,some (1,c.done.map T.bool))∈ [(A,some (2,B)),((Z c.tx:T),(none:aa (Nat×List T))),(r,some (1,c.done.map T.bool)),(s,some (3,c.dH.map dJ.t))]:=dy;have dd:(s,some (3,c.dH.map dJ.t))∈ [(A,some (2,B)),((Z c.tx:T),(none:aa (Nat×List T))),(r,some (1,c.done.map T.bool)),(s,some (3,c.dH.map dJ.t))]:=dy;refine⟨A,r,s,B,rfl,⟨b8.gr 0 rfl,b8.gr 2 rfl,b8.gr 3 rfl,ae.imp λe l ⟨bS,a7,a8,R⟩=>⟨bS,a7,a8.mono λg j=>?_,λg j=>?_⟩,λg j=>?_⟩,⟨⟨(aX.ok.out b).hp,(aX.ok.out b).low,by simp;exact O.ok.sz⟩,λg j=>?_⟩⟩
  ·rw[fV,dN l2.get,aq (by have:=(R g j).1;omega)]
  ·have⟨bB,aA,F⟩:=R g j;exact⟨J,by simpa using aA,λq=>F (d.Cu c7 q),λq=>F (d.Cu c9 q),λq=>F (d.Cu dd q)⟩
  ·have E:Fp i (b.size+1+1+1+1) g:=by
    rcases j with q|q|q
    ·exact d.Cu c7 q
    ·exact d.Cu c9 q
    ·exact d.Cu dd q
   have:=d.fp g E;have:=aE g E;exact⟨J,by simpa⟩
  ·rw[fV,dN l2.get,aq J];exact O.get g j
 ·have bC:∀(u:Nat) (I:T×aa (Nat×List T)) a,[(T.dK [] false,some (2,[])),((Z c.tx:T),(none:aa (Nat×List T))),(r,some (1,c.done.map T.bool)),(s,some (3,c.dH.map dJ.t))][u]? =some I->dT I.1=some a->a=b.size+u:=λu I a D q=>by
   rcases u with _|_|_|_|u<;>simp at D<;>subst D
   ·simp at q
   ·simp at q
   ·have:=cb a q;omega
   ·have:=cp a q;omega
  have de:ny (k.cons (dE 4 1 [.agg [dD,Z c.tx,r,s]])) (b.size+1+1+1+1) 4 1 [(T.dK [] false,some (2,[])),(Z c.tx,none),(r,some (1,c.done.map T.bool)),(s,some (3,c.dH.map dJ.t))]:=by
   refine⟨okB.cons _,by simp[Y],λf E=>?_,λu g e6 I n D U a aN bN=>?_⟩
   ·simp only[bZ,cG,or_false]at E;rcases E with rfl|rfl|rfl|rfl
    ·exact⟨Gr.nil _ _,show(2:Nat)≠4 by decide⟩
    ·show dT _=none;simp
    ·exact⟨dv.mono λa h=>by have:=cb a h;rw[dS,aq (by rw[Y];omega)],show(1:Nat)≠4 by decide⟩
    ·exact⟨ea.mono λa h=>by have:=cp a h;rw[dS,aq (by rw[Y];omega)],show(3:Nat)≠4 by decide⟩
   ·have:=bC u I a D aN;have:=bC g n a U bN;omega
  have bn:∀a,Fp (k.cons (dE 4 1 [.agg [dD,Z c.tx,r,s]])) (b.size+1+1+1+1) a->b.size+1<a:=λa h=>by
   rcases h with q|⟨x,bu,v,c6,q⟩
   ·omega
   ·rw[de.get]at bu;simp only[au]at bu;subst bu;simp only[fF,cN,cZ,bQ,T.cells]at c6;obtain⟨f,et,rfl⟩:=List.mem_map.1 c6;have⟨u,V⟩:=cF et;have j:=bC u f a V q;rcases u with _|_|u
    ·simp at V;subst V;simp at q
    ·simp at V;subst V;simp at q
    ·omega
  simp[Y,eB];refine⟨⟨_,_,[],de,rfl,.nil⟩,eD.cons _,⟨?_,λq=>?_⟩,⟨?_,λq=>?_⟩,bn⟩
  ·rw[dS,aq J];exact eR
  ·have:=bn _ q;omega
  ·rw[dS,aq J];exact eS
  ·have:=bn _ q;omega
structure Ac(h0 h':H)(v:T)(l:List Int):Prop where
 nb:Nb h0 h'
 g:Gr h' v 1 (ge l)
 lo:∀c,dT v=some c->h0.size<=c
def Ac.start{a:H}(b:il 0 a):Ac a a dD []:=⟨Nb.refl b,Gr.nil _ _,λd c=>by simp at c⟩
def Ac.mn{m h:H}{n:T}{j:List Int}(a:Ac m h n j)(l:Int)(s:j.length<=10000000):∃d c,iU cx (h.cons (dE 1 0 [Z l])) 39 39 n (.arr h.size 0 0 1 false)=some (.val d c)/\Ac m c d (j++[l]):=by
 have⟨d,c,e,o,p,r,k⟩:=a.g.mn (cx:=cx) (f:=T.int .i64) ⟨a.nb.ok.hp,a.nb.ok.low,ax _⟩ j9 rfl mY rfl dy (λ_=>rfl) l dz;have:=a.nb.ok.sz;refine⟨d,c,e,⟨⟨k.hp,k.low,aT a.nb.ok.sz k.sz⟩,λb i=>(p b J λq=>by have:=a.lo b q;omega).trans (a.nb.get b i)⟩,o,λb i=>?_⟩;rcases r b i with q|q
 ·exact a.lo b q
 ·omega
def Ac.Ir{a c:H}{l:T}{i:List Int}{h:H}(e:Ac h c l i)(j:Nb a h):Uy a (md a c) l i:=by
 have d:=j.trans e.nb;have k:il 0 c:=⟨d.ok.hp,d.ok.low,ax _⟩;have:=j.ok.sz;exact⟨.inr (e.g.out a),⟨⟨(k.out a).hp,(k.out a).low,d.ok.sz⟩,λb f=>(fV a c b).trans (d.get b f)⟩,λb f=>by have:=e.lo b f;omega⟩
structure IWt where
 (S:fq) (c0 c2 c3:T) (c:Int)
def Vc(a:IWt)(d:List T)(b:H):Prop:=d=[MQ a.S a.c0 a.c2 a.c3,Z a.c]/\Gr b a.c3 3 (a.S.dH.map dJ.t)/\a.S.dH.length<=1000000/\il 0 b
def Po(a:IWt)(f:List T)(b:H)(e:T)(d:H):Prop:=Uy b d e (iw a.c a.S.dH 0)
def JA(c:Int)(b:List dJ)(a:Nat)(d:a<b.length):iw c (b.drop a) a=if b[a].ij=3/\b[a].cond=c then(a:Int)::iw c (b.drop (a+1)) (a+1)else iw c (b.drop (a+1)) (a+1):=by
 rw[aI d,iw]
def Dm:(jM IWt Vc Po).Ok prog cx 49:=by
 refine jB (tb:=⟨pt [],ht []⟩) iR iE (iX 1073743991 [] func49) (λ_ _=>1000005) (λi d a Q=>by obtain⟨rfl,_⟩:=Q;simp[f49]) ?_;rintro⟨b,k,l,c,j⟩ _ a ⟨rfl,o,hl,z⟩ m D;simp only at o hl;simp[MQ]at D;obtain⟨M,f⟩:=D;have S:=z.hr.cons (dE 4 0 [.agg [k,Z b.tx,l,c]]);have L:Gr ((hr a).cons (dE 4 0 [.agg [k,Z b.tx,l,c]])) c 3 (b.dH.map dJ.t):=o.mono λe r=>by
  have⟨_,_,_,_,A,_⟩:=o.box r;rw[dS,aq (by have:=H.fh A;simp;omega),ik]
 have l3:∀e,dT c=some e->e<a.size:=λe r=>by have⟨_,_,_,_,A,_⟩:=o.box r;exact H.fh A
 have w:=λf:H=>o.len (cx:=cx) f Oz _ rfl;rw[aH]at w;simp[f49,M];have B:((hr a).cons (dE 4 0 [.agg [k,Z b.tx,l,c]])).get a.size=some (dE 4 0 [.agg [k,Z b.tx,l,c]]):=dy;have R:Nb a ((hr a).cons (dE 4 0 [.agg [k,Z b.tx,l,c]])):=⟨((Nb.refl z.hr).cons _).ok,λj P=>(((Nb.refl z.hr).cons _).get j P).trans (ik a j)⟩;have an:((hr a).cons (dE 4 0 [.agg [k,Z b.tx,l,c]])).size=a.size+1:=rfl;generalize Y:(hr a).cons (dE 4 0 [.agg [k,Z b.tx,l,c]])=N at*
 refine fD b.dH.length J (λh m h'=>∃s n,Ac N h' s n/\n.length<=h/\n++iw j (b.dH.drop h) h=iw j b.dH 0/\dF m 1 (Z j)/\dF m 2 (.ptr a.size 0 0 0)/\dF m 5 s/\dF m 6 (Z h)) ?_ ?_ J ⟨_,_,Ac.start S,ax _,rfl,by simp[f]⟩
 ·rintro h m h' x E ⟨s,n,d,O,g,f,p,u,q⟩;have v:=(d.nb.get a.size J).trans B;have⟨e,V,ae,W,al,U,G,I,C⟩:=(L.mono (h':=h') λe r=>d.nb.get e (by have:=l3 e r;omega)).Bp (te:=HG) rfl (i:=h) (by simpa using x);simp at C;rw[JA j _ _ x]at g;simp[f,p,q,w,x,v,G,I,C];generalize b.dH[h]=t at*
  refine ej (λy=>?_) (λy=>?_)
  ·rw[ar (by simpa using y)]at g;have⟨T,X,K,F⟩:=d.mn (h:Int) J;simp[f,p,u,q,K,E];exact⟨T,_,F,dz,by simpa using g,rfl⟩
  ·rw[aq (by simpa using y)]at g;simp[f,p,u,q,E];exact⟨s,n,d,J,g,rfl⟩
 ·rintro m h' ⟨s,n,d,O,g,f,p,u,q⟩;have v:=(d.nb.get a.size J).trans B;simp[iw]at g;subst g;simp[p,u,q,w,v];exact d.Ir R
structure IWo where
 (l:List Int) (v:T) (n:Int)
def Vd(a:IWo)(d:List T)(b:H):Prop:=d=[a.v,Z a.n]/\pY b 1 a.v (ge a.l)/\(∀c,dT a.v=some c->c<b.size)/\a.l.length<=1000000/\il 0 b
def Pp(a:IWo)(f:List T)(b:H)(d:T)(c:H):Prop:=Uy b c d (a.l.filter λe=> !decide (e=a.n))
def J7:(jM IWo Vd Pp).Ok prog cx 96:=by
 refine jB (tb:=⟨pt [],ht []⟩) iR iE (iX 263283 [] func96) (λ_ _=>1000005) (λi f h E=>by obtain⟨rfl,_⟩:=E;simp[f96]) ?_;rintro⟨l,I,r⟩ _ h ⟨rfl,t,z,hl,s⟩ e w;simp only at t z hl;simp at w;obtain⟨c,a⟩:=w;have F:Nb h (hr h):=⟨⟨s.hr.hp,s.hr.low,aw _⟩,λj _=>ik h j⟩;have o:=λa:H=>t.len (cx:=cx) a qm _ rfl;rw[aH]at o;simp[f96];refine fD l.length J (λd e h'=>∃m g,Ac (hr h) h' m g/\g.length<=d/\g++(l.drop d).filter (λx=> !decide (x=r))=l.filter (λx=> !decide (x=r))/\dF e 0 I/\dF e 1 (Z r)/\dF e 5 m/\dF e 6 (Z d)) ?_ ?_ J ⟨_,_,Ac.start s.hr,ax _,rfl,by simp[c,a]⟩
 ·rintro d e h' p y ⟨m,g,f,C,b,c,a,n,k⟩;have⟨L,u,v⟩:=(t.mono (h':=h') λj D=>(f.nb.get j (by simpa using z j D)).trans (ik h j)).idx (te:=EM) rfl rfl (i:=d) (x:= Z l[d]) (by simp[p]) rfl;rw[aI p,List.filter_cons]at b;simp[c,a,k,o,p,u,v];generalize l[d]=x at*
  refine ej (λq=>?_) (λq=>?_)
  ·rw[ar (by simpa using q)]at b;have⟨G,K,B,A⟩:=f.mn x J;simp[c,a,n,k,u,v,B,y];exact⟨G,_,A,dz,by simpa using b,rfl⟩
  ·rw[aq (by simpa using q)]at b;simp[c,a,n,k,y];exact⟨m,g,f,J,b,rfl⟩
 ·rintro e h' ⟨m,g,f,C,b,c,a,n,k⟩;simp at b;subst b;simp[c,n,k,o];exact f.Ir F
end
section
def oz{d:Type}{c:List d}{b:Nat}{a:d}(h:c[b]? =some a)(f:d->d):c.modify b f=c.set b (f a):=by
 apply cB;intro g;rw[cY,bV];by_cases e:b=g
 ·subst e;have hi:b<c.length:=by
   rcases aR b c.length with k|k
   ·exact k
   ·rw[bK k]at h;simp at h
  rw[h];simp[hi]
 ·rw[aq e];simp[e]
section
variable {lo hi hi':Nat}{h h':H}{c0 c2 c3:T}{es:List T}{S:fq}
def Cf.mono(d:Cf lo hi h c0 c2 c3 es S)(l:hi<=hi')(f:∀a,lo<=a->a<hi->h'.get a=h.get a):Cf lo hi' h' c0 c2 c3 es S:=
 ⟨d.g0.mono λa c=>f a (d.b a (.inl c)).1 (d.b a (.inl c)).2,d.g2.mono λa c=>f a (d.b a (.inr (.inl c))).1 (d.b a (.inr (.inl c))).2,d.g3.mono λa c=>f a (d.b a (.inr (.inr c))).1 (d.b a (.inr (.inr c))).2,
   d.el.imp λk m ⟨j,g,i,e⟩=>⟨j,g,i.mono λa c=>f a (e a c).1 (e a c).2.1,λa c=>⟨(e a c).1,by have:=(e a c).2.1;omega,(e a c).2.2⟩⟩,λa c=>⟨(d.b a c).1,by have:=(d.b a c).2;omega⟩⟩
def Cf.tx(a:Cf lo hi h c0 c2 c3 es S)(c:Int):Cf lo hi h c0 c2 c3 es {S with tx:=c}:=⟨a.g0,a.g2,a.g3,a.el,a.b⟩
def Cf.nT(d:Cf lo hi h c0 c2 c3 es S){e l n:Nat}{m:Bool}{o:List T}(r:dT c3=some e)(g:h.get e=some ⟨3,l,n,m,false,o⟩)(i:Nat)(k:dJ):
 Cf lo hi (dZ h e ⟨3,l,n+1,m,false,o.set i k.t⟩) c0 c2 c3 es {S with dH:=S.dH.set i k}:=by
 have p:∀a,a≠e->(dZ h e ⟨3,l,n+1,m,false,o.set i k.t⟩).get a=h.get a:=λa c=>by rw[dN g,aq c]
 refine⟨d.g0.mono λa c=>p a λf=>?_,d.g2.mono λa c=>p a λf=>?_,?_,d.el.imp λf w ⟨v,s,u,q⟩=>⟨v,s,u.mono λa c=>p a λf=>(q a c).2.2.2.2 (by rw[f];exact r),q⟩,d.b⟩
 ·subst f;have⟨_,_,_,_,j,_⟩:=d.g0.box c;rw[g]at j;simp at j
 ·subst f;have⟨_,_,_,_,j,_⟩:=d.g2.box c;rw[g]at j;simp at j
 ·have:=d.g3.setAt r g i k.t (h':=dZ h e ⟨3,l,n+1,m,false,o.set i k.t⟩) (by rw[dN g,ar rfl]);simpa[br]using this
def Cf.Zf(d:Cf lo hi h c0 c2 c3 es S){e l n:Nat}{m:Bool}{o:List T}(r:dT c2=some e)(g:h.get e=some ⟨1,l,n,m,false,o⟩)(i:Nat)(k:Bool):
 Cf lo hi (dZ h e ⟨1,l,n+1,m,false,o.set i (.bool k)⟩) c0 c2 c3 es {S with done:=S.done.set i k}:=by
 have p:∀a,a≠e->(dZ h e ⟨1,l,n+1,m,false,o.set i (.bool k)⟩).get a=h.get a:=λa c=>by rw[dN g,aq c]
 refine⟨d.g0.mono λa c=>p a λf=>?_,?_,d.g3.mono λa c=>p a λf=>?_,d.el.imp λf v ⟨u,s,t,q⟩=>⟨u,s,t.mono λa c=>p a λf=>(q a c).2.2.2.1 (by rw[f];exact r),q⟩,d.b⟩
 ·subst f;have⟨_,_,_,_,j,_⟩:=d.g0.box c;rw[g]at j;simp at j
 ·have:=d.g2.setAt r g i (.bool k) (h':=dZ h e ⟨1,l,n+1,m,false,o.set i (.bool k)⟩) (by rw[dN g,ar rfl]);simpa[br]using this
 ·subst f;have⟨_,_,_,_,j,_⟩:=d.g3.box c;rw[g]at j;simp at j
def Cf.pw(e:Cf lo hi h c0 c2 c3 es S){g m p:Nat}{n:Bool}{q:List T}(o:dT c0=some g)(i:h.get g=some ⟨2,m,p,n,false,q⟩)(f:Nat){rv:T}{k:dR}(hr:pY h 1 rv (ge k.ew))(s:∀a,dT rv=some a->lo<=a/\a<hi/\dT c0≠some a/\dT c2≠some a/\dT c3≠some a):
 Cf lo hi (dZ h g ⟨2,m,p+1,n,false,q.set f (.agg [Z k.iB,rv])⟩) c0 c2 c3 (es.set f (.agg [Z k.iB,rv])) {S with ei:=S.ei.set f k}:=by
 have l:∀a,a≠g->(dZ h g ⟨2,m,p+1,n,false,q.set f (.agg [Z k.iB,rv])⟩).get a=h.get a:=λa c=>by rw[dN i,aq c]
 refine⟨e.g0.setAt o i f _ (by rw[dN i,ar rfl]),e.g2.mono λa c=>l a λd=>?_,e.g3.mono λa c=>l a λd=>?_,e.el.set f ⟨rv,rfl,hr.mono λa c=>l a λd=>(s a c).2.2.1 (by rw[d];exact o),s⟩ λd v ⟨rv,t,u,r⟩=>⟨rv,t,u.mono λa c=>l a λd=>(r a c).2.2.1 (by rw[d];exact o),r⟩,e.b⟩
 ·subst d;have⟨_,_,_,_,j,_⟩:=e.g2.box c;rw[i]at j;simp at j
 ·subst d;have⟨_,_,_,_,j,_⟩:=e.g3.box c;rw[i]at j;simp at j
end
def Cf.fz{lo hi:Nat}{h:H}{c0 c2 c3:T}{es:List T}{S:fq}(a:Cf lo hi h c0 c2 c3 es S):TI.fz h c0=some (sl (S.ei.map dR.t))/\TI.fz h c2=some (sl (S.done.map T.bool))/\TI.fz h c3=some (sl (S.dH.map dJ.t)):=by
 refine⟨?_,a.g2.fz dy,a.g3.fz dy⟩;exact a.g0.KF (d:=4) J (a.el.Xb (f:=dR.t) λg j ⟨l,b,c,i⟩=>by
  subst b;exact .inr (.inr ⟨_,_,rfl,.cons (gW ..) (.cons (c.ft (d:=1) (V:=λ_=>True) (λm e=>by obtain⟨k,_,rfl⟩:=List.mem_map.1 e;simp) λ_ _=>trivial) .nil),rfl⟩))
def JB{c:List Int}(h:Jt c)(d:Int):Aq c [d]=lK c d:=by
 have e:∀(a b:List Int),mc b a=a.foldl lK b:=by
  intro a;induction a with
  |nil=>intro b;rfl
  |cons g a f=>intro b;show mc (rH b g) a=_;rw[f,ze];rfl
 unfold Aq;rw[e,e];exact MM h d
end
section
attribute [-simp] size_cons
section
def t9{e d:Int}:∀{b:List dJ} {c:Nat},d∈iw e b c->∃a:Nat,d=((c+a:Nat):Int)/\a<b.length:=by
 intro b;induction b with
 |nil=>intro c h;simp[iw]at h
 |cons k b j=>
  intro c h;rw[iw]at h;have f:d∈iw e b (c+1)->∃a:Nat,d=((c+a:Nat):Int)/\a<(k::b).length:=λh=>by
   have⟨a,g,i⟩:=j h;exact⟨a+1,by rw[g];simp;omega,by simpa using i⟩
  split at h
  ·rcases List.mem_cons.1 h with rfl|h
   ·exact⟨0,dy,dy⟩
   ·exact f h
  ·exact f h
def CN(c:Int):∀(a:List dJ) (b:Nat),(iw c a b).length<=a.length:=by
 intro a;induction a with
 |nil=>intro b;simp[iw]
 |cons e a d=>intro b;rw[iw];have:=d (b+1);split<;>simp<;>omega
def NE(T:List dJ)(b:List Int):List dJ:=b.foldl (λT (a:Int)=>T.modify a.toNat (ka 4)) T
def Tt(g:Int):∀(c b:List dJ),NE (b++c) (iw g c b.length)=b++c.map λe=>if e.ij=3/\e.cond=g then ka 4 e else e:=by
 intro c;induction c with
 |nil=>intro b;simp[iw,NE]
 |cons d c i=>
  intro b;rw[iw];split
  ·rename_i f;unfold NE;rw[List.foldl_cons];have j:(b++d::c).modify ((b.length:Int).toNat) (ka 4)=(b++[ka 4 d])++c:=by
    rw[oz (a:=d) dy];simp
   rw[j];have:=i (b++[ka 4 d]);simp only[bj,aU,cM]at this;unfold NE at this;rw[this];simp[f]
  ·rename_i f;have:=i (b++[d]);simp only[bj,aU,cM]at this;simp only[cO,List.singleton_append]at this;rw[this];simp[f]
def Ts(a:List Int):∀T,(NE T a).length=T.length:=by
 induction a with
 |nil=>intro T;rfl
 |cons c a b=>intro T;show(NE (T.modify c.toNat (ka 4)) a).length=_;rw[b];simp
def QF(T:List dJ)(b:List Int){a:Nat}(c:a<b.length):NE T (b.take (a+1))=(NE T (b.take a)).modify b[a].toNat (ka 4):=by
 rw[aQ c];unfold NE;rw[List.foldl_append];rfl
def Cp{c:Type}(b:List c)(a:Nat)(d e:c->c):(b.modify a d).modify a e=b.modify a λi=>e (d i):=by
 apply cB;intro f;simp only[cY];by_cases g:a=f
 ·simp[g];cases b[f]? <;>rfl
 ·simp[g]
structure Bs(c0 c2 c3:T)(h:H)(es:List T)(S:fq)(ver:Nat):Prop where
 sy:Cf 3 h.size h c0 c2 c3 es S
 ok:il 0 h
 g1:h.get 1=some (dE 4 ver [.agg [c0,Z S.tx,c2,c3]])
 g2:h.get 2=some (dE 4 0 [.agg [dD,Z 0,dD,dD]])
section
variable {c0 c2 c3:T}{h h':H}{es:List T}{S:fq}{ver:Nat}
def Bs.nb(b:Bs c0 c2 c3 h es S ver)(a:Nb h h'):Bs c0 c2 c3 h' es S ver:=
 ⟨b.sy.mono a.ok.sz λc _ d=>a.get c d,⟨a.ok.hp,a.ok.low,ax _⟩,(a.get _ (H.fh b.g1)).trans b.g1,(a.get _ (H.fh b.g2)).trans b.g2⟩
theorem Bs.put(d:Bs c0 c2 c3 h es S ver){a:Nat}{x:iY}(f:h.get a=some x)(j:3<=a){g:iY}{e:List T}{b:fq}(i:Cf 3 h.size (dZ h a g) c0 c2 c3 e b)(ht:b.tx=S.tx):Bs c0 c2 c3 (dZ h a g) e b ver:=
 ⟨by rw[fK];exact i,d.ok.put _ _,by rw[dN f,aq J,ht];exact d.g1,by rw[dN f,aq J];exact d.g2⟩
def Bs.nT(c:Bs c0 c2 c3 h es S ver){a e k:Nat}{f:Bool}{l:List T}(g:dT c3=some a)(j:h.get a=some ⟨3,e,k,f,false,l⟩){i:Nat}{me:dJ}(m:S.dH[i]? =some me)(d:dJ->dJ):
 Bs c0 c2 c3 (dZ h a ⟨3,e,k+1,f,false,l.set i (d me).t⟩) es {S with dH:=S.dH.modify i d} ver:=by
 have:=c.put j (c.sy.b a (.inr (.inr g))).1 (c.sy.nT g j i (d me)) rfl;rw[oz m];exact this
def Bs.pw(g:Bs c0 c2 c3 h es S ver){d i m:Nat}{j:Bool}{n:List T}(k:dT c0=some d)(l:h.get d=some ⟨2,i,m,j,false,n⟩){c:Nat}{f:dR}(hl:S.ei[c]? =some f)(e:dR->dR){rv:T}(hr:pY h 1 rv (ge (e f).ew))(o:∀a,dT rv=some a->3<=a/\a<h.size/\dT c0≠some a/\dT c2≠some a/\dT c3≠some a):
 Bs c0 c2 c3 (dZ h d ⟨2,i,m+1,j,false,n.set c (.agg [Z (e f).iB,rv])⟩) (es.set c (.agg [Z (e f).iB,rv])) {S with ei:=S.ei.modify c e} ver:=by
 have:=g.put l (g.sy.b d (.inl k)).1 (g.sy.pw k l c hr o) rfl;rw[oz hl];exact this
def Bs.Zf(c:Bs c0 c2 c3 h es S ver){a f k:Nat}{g:Bool}{l:List T}(i:dT c2=some a)(j:h.get a=some ⟨1,f,k,g,false,l⟩)(d:Nat)(e:Bool):Bs c0 c2 c3 (dZ h a ⟨1,f,k+1,g,false,l.set d (.bool e)⟩) es {S with done:=S.done.set d e} ver:=
 c.put j (c.sy.b a (.inr (.inl i))).1 (c.sy.Zf i j d e) rfl
def Bs.tx(a:Bs c0 c2 c3 h es S ver)(b:Int):Bs c0 c2 c3 (dZ h 1 (dE 4 (ver+1) [.agg [c0,Z b,c2,c3]])) es {S with tx:=b} (ver+1):=
 ⟨by rw[fK];exact(a.sy.tx b).mono (aw _) λc d _=>by rw[dN a.g1,aq J],a.ok.put _ _,by rw[dN a.g1,ar rfl],by rw[dN a.g1,aq J];exact a.g2⟩
end
structure ApJ(w:dY)(s:fq)(t k o wk:Int)(c0 c2 c3:T)(h:H)(n:Int):Prop where
 ex:∃S es ver,eY w s t k o wk=(S,n)/\Bs c0 c2 c3 h es S ver
def VZ:fq:=⟨[],0,[],[]⟩
def yH(a:dY×fq×Int×Int×Int×Int):T:=if iG a.1 a.2.1 a.2.2.1 a.2.2.2.1 a.2.2.2.2.1=true then .tuple [(eY a.1 a.2.1 a.2.2.1 a.2.2.2.1 a.2.2.2.2.1 a.2.2.2.2.2).1.t,Z (eY a.1 a.2.1 a.2.2.1 a.2.2.2.1 a.2.2.2.2.1 a.2.2.2.2.2).2,.bool true]else .tuple [VZ.t,Z 0,.bool false]
def OM(a:fq):Prop:=a.ei.length<=1000000/\a.done.length<=1000000/\a.dH.length<=1000000/\(∀b∈a.ei,b.ew.length<=1000000)/\a.BB
def qV:gG:=⟨dY×fq×Int×Int×Int×Int,λa=>[a.1.t,a.2.1.t,Z a.2.2.1,Z a.2.2.2.1,Z a.2.2.2.2.1,Z a.2.2.2.2.2],λa=>a.1.gF.length<=1099511627776/\OM a.2.1,yH,λa b h=>by
 obtain⟨a1,a2,a3,a4,a5,c⟩:=a;obtain⟨d,e,f,g,i,j⟩:=b;simp at h;rw[dY.inj h.1,fq.inj h.2.1,h.2.2.1,h.2.2.2.1,h.2.2.2.2.1,h.2.2.2.2.2]⟩
def FK:qV.Ok prog cx 51:=by
 refine A6 (tb:=⟨pt [(47,mv),(31,C6)],ht [(46,jM fq Ft JZ),(95,jM IUn Pf JW),(96,jM IWo Vd Pp),(49,jM IWt Vc Po)]⟩) iR iE (iX 829180818552508142370930303613581122868418894632663968482586879 [(17,[(1,11)]),(19,[(1,10)]),(30,[(4,9)]),(33,[(4,8)])] func51) (λ_=>1000005) (by simp[qV]) nl9 ?_;rintro⟨q,a,d,k,e,r⟩ ⟨dm,hl,eO,ht,hr,eL⟩ C eI;simp at dm hl eO ht hr eL;simp[qV,yH]at eI|-;obtain⟨eF,a7,I,di,F,eH⟩:=eI;have eX:a.sm:=⟨J,J,J,λj u=>by have:=hr j u;omega⟩;cases dv:iG q a d k e with
 |false=>
  simp[f51,eF,a7,I,di,F,vh,dm,eX,dv];rfl
 |true=>
  have ea:=dv;unfold iG at ea;simp only[aB]at ea;obtain⟨⟨⟨eP,eS⟩,b9⟩,_⟩:=ea;have⟨e7,gP,e8⟩:=kr eP;simp[f51,eF,a7,I,di,F,vh,dm,eX,dv];generalize bi:((hE.cons _).cons _).cons _=bN;have gM:il 0 bN:=by rw[<-bi];exact⟨dy,dy,dy⟩
  have ha:bN.size=3:=by rw[<-bi];rfl
  have ff:bN.get 0=some (dE 6 0 [q.t]):=by rw[<-bi];simp
  have fi:bN.get 1=some (dE 4 0 [a.t]):=by rw[<-bi];simp
  have fl:bN.get 2=some (dE 4 0 [.agg [dD,Z 0,dD,dD]]):=by rw[<-bi];simp
  clear bi;refine iC Du dy a ⟨rfl,gM,hl,eO,ht,hr⟩ ?_;rintro _ cL ⟨c0,c2,c3,es,rfl,fb,bu⟩;rw[ha]at fb;have hn:=bu.ok.sz;have gI:il 0 cL:=⟨bu.ok.hp,bu.ok.low,ax _⟩;have bH:=(bu.get 1 J).trans fi;have fv:=(bu.get 0 J).trans ff;have fA:=(bu.get 2 J).trans fl;have c:Bs c0 c2 c3 (dZ cL 1 (dE 4 1 [.agg [c0,Z a.tx,c2,c3]])) es a 1:=⟨by rw[fK];exact fb.mono (aw _) λo u _=>by rw[dN bH,aq J],gI.put _ _,by rw[dN bH,ar rfl],by rw[dN bH,aq J];exact fA⟩;have eE:(dZ cL 1 (dE 4 1 [.agg [c0,Z a.tx,c2,c3]])).get 0=some (dE 6 0 [q.t]):=by rw[dN bH,aq J];exact fv
  simp[MQ,bH,di];generalize dZ cL 1 _=a8 at*
  have eU:=eS;rw[<-e8]at eU;have⟨me,K,hd⟩:=iD eU;have bB:=eG (eZ.1 eS).1;refine ll (λC an=>∃n,ApJ q a d k e r c0 c2 c3 an n/\dF C 7 (.ptr 1 0 0 0)/\dF C 12 (.ptr 2 0 0 0)/\dF C 15 (Z n)) (λap=>?_) (λap=>?_) ?_
  ·have ap:k=1:=by simpa using ap
   subst ap
   ·have⟨D,ep,aE,ex,aN,w,l,s,m⟩:=c.sy.g3.at (x:=me.t) (i:=d.toNat) (by simp[K]);rw[aH]at w m;subst w;simp[I,c.g1,bB,l,s,m];exact⟨_,_,_,show eY q a d 1 e r=(a.nT d (ka 2),0)by simp[eY],c.nT rfl l K (ka 2)⟩
  ·have ap:¬k=1:=by simpa using ap
   rcases pO b9 with g|rfl|rfl|rfl|rfl|rfl|rfl|rfl|rfl|g|g|g|g
   ·exact absurd g ap
   ·have⟨D,ep,aE,ex,aN,w,l,s,m⟩:=c.sy.g3.at (x:=me.t) (i:=d.toNat) (by simp[K]);rw[aH]at w m;subst w;simp[I,c.g1,bB,l,s,m];exact⟨_,_,_,show eY q a d 2 e r=(a.nT d (ka 5),0)by simp[eY],c.nT rfl l K (ka 5)⟩
   ·simp;exact⟨_,_,_,show eY q a d 3 e r=(a,0)by simp[eY],c⟩
   ·simp;exact⟨_,_,_,show eY q a d 4 e r=(a,0)by simp[eY],c⟩
   ·simp;exact⟨_,_,_,show eY q a d 5 e r=(a,0)by simp[eY],c⟩
   ·simp[I,c.g1,dX];exact⟨_,_,_,show eY q a d 12 e r=({a with tx:=d},0)by simp[eY],c.tx d⟩
   ·simp[c.g1,dX];exact⟨_,_,_,show eY q a d 13 e r=({a with tx:=-1},0)by simp[eY],c.tx (-1)⟩
   ·have⟨D,ep,aE,ex,aN,w,l,s,m⟩:=c.sy.g3.at (x:=me.t) (i:=d.toNat) (by simp[K]);rw[aH]at w m;subst w;simp[I,c.g1,bB,l,s,m];exact⟨_,_,_,show eY q a d 14 e r=(a.nT d (λx=>{x with atomic:=true}),0)by simp[eY],c.nT rfl l K (λx=>{x with atomic:=true})⟩
   ·have⟨D,ep,aE,ex,aN,w,l,s,m⟩:=c.sy.g3.at (x:=me.t) (i:=d.toNat) (by simp[K]);rw[aH]at w m;subst w;simp[I,c.g1,bB,l,s,m];exact⟨_,_,_,show eY q a d 15 e r=(a.nT d (λx=>{x with atomic:=false}),0)by simp[eY],c.nT rfl l K (λx=>{x with atomic:=false})⟩
   ·have G:=jY b9 g;rw[<-e7]at G;have⟨W,L,gn⟩:=iD G;have E:=eG (eZ.1 G).1;obtain⟨B,ds,rv,rfl,V,aA⟩:=c.sy.el.get L;obtain⟨D,ep,aE,ex,aN,rfl,l,s,m⟩:=c.sy.g0.at ds;have bS:=H.fh l;have hb:=(c.sy.b D (.inl rfl)).1;have er:(1=a8.size)=False:=by have:=H.fh c.g1;simp;omega
    have hf:(D=a8.size)=False:=dz;have gz:=hr W (ay L);have e5:∀o,dT rv=some o->o<a8.size:=λo u=>(aA o u).2.1;rcases g with rfl|rfl|rfl|rfl|rfl|rfl
    ·simp[I,F,c.g1,E,l,s,m];exact⟨_,_,_,show eY q a d 6 e r=(a.pw e (λj=>{j with iB:=d}),0)by simp[eY],c.pw rfl l L (λj=>{j with iB:=d}) V aA⟩
    ·simp[F,c.g1,E,l,s,m];exact⟨_,_,_,show eY q a d 7 e r=(a.pw e (λj=>{j with iB:=-1}),0)by simp[eY],c.pw rfl l L (λj=>{j with iB:=-1}) V aA⟩
    ·simp[I,F,c.g1,E,l,s,m];refine mF Ic dy ⟨W.ew,[d],rv,.arr a8.size 0 0 1 false⟩ ⟨rfl,V.mono λo u=>by rw[dS,aq (by have:=e5 o u;omega)],.inr (Gr.new (ep:=0) (ver:=0) (ex:=true) (es:=[Z d]) dy),dz,c.ok.cons _⟩ ?_;rintro N al ⟨v,Q,ey⟩;have e6:Nb a8 al:=((Nb.refl c.ok).cons (dE 1 0 [Z d])).trans Q;have P:=c.nb e6;have b6:=(e6.get D bS).trans l;have eB:=fG (Q.get 1 (by have:=H.fh c.g1;simp;omega));simp only at v;rw[JB (eL W (ay L))]at v;have eA:∀o,dT N=some o->o<al.size:=λo u=>by
      rcases v with rfl|g
      ·simp at u
      ·have⟨_,_,_,_,k,_⟩:=g.box u;exact H.fh k
     simp[E,b6,s,m,eB,dX,v.iy.1,v.iy.2];exact⟨_,_,_,show eY q a d 8 e r=(a.pw e (λj=>{j with ew:=lK j.ew d}),0)by simp[eY],P.pw rfl b6 L (λj=>{j with ew:=lK j.ew d}) v λo u=>by
      have e4:=ey o u;simp at e4;have eo:=eA o u;exact⟨J,eo,λB=>by simp at B;omega,λB=>by have:=(c.sy.b o (.inr (.inl B))).2;omega,λB=>by have:=(c.sy.b o (.inr (.inr B))).2;omega⟩⟩
    ·simp[I,F,c.g1,E,l,s,m];refine mF J7 dy ⟨W.ew,rv,d⟩ ⟨rfl,V,e5,gz,c.ok⟩ ?_;rintro N al ⟨v,Q,ey⟩;have P:=c.nb Q;have b6:=(Q.get D bS).trans l;have eB:=fG (Q.get 1 (H.fh c.g1));simp only at v;have eA:∀o,dT N=some o->o<al.size:=λo u=>by
      rcases v with rfl|g
      ·simp at u
      ·have⟨_,_,_,_,k,_⟩:=g.box u;exact H.fh k
     simp[E,b6,s,m,eB,dX,v.iy.1,v.iy.2];exact⟨_,_,_,show eY q a d 9 e r=(a.pw e (λj=>{j with ew:=j.ew.filter λN=> !decide (N=d)}),0)by simp[eY],P.pw rfl b6 L (λj=>{j with ew:=j.ew.filter λN=> !decide (N=d)}) v λo u=>by
      have e4:=ey o u;have eo:=eA o u;exact⟨J,eo,λB=>by simp at B;omega,λB=>by have:=(c.sy.b o (.inr (.inl B))).2;omega,λB=>by have:=(c.sy.b o (.inr (.inr B))).2;omega⟩⟩
    ·simp[I,F,c.g1,E,l,s,m];exact⟨_,_,_,show eY q a d 10 e r=(a.pw e (λj=>{j with iB:=d}),0)by simp[eY],c.pw rfl l L (λj=>{j with iB:=d}) V aA⟩
    ·simp[F,c.g1,E,l,s,m];exact⟨_,_,_,show eY q a d 11 e r=(a.pw e (λj=>{j with iB:=-1}),0)by simp[eY],c.pw rfl l L (λj=>{j with iB:=-1}) V aA⟩
   ·have G:=my b9 g;have⟨o,dn,eN⟩:=iD G;have b8:=pV eP dn;rw[<-e7]at b8;have⟨W,L,gn⟩:=iD b8;have E:=eG (eZ.1 G).1;have fe:=eG (eZ.1 b8).1;obtain⟨B,ds,rv,rfl,V,aA⟩:=c.sy.el.get L;obtain⟨D,ep,aE,ex,aN,rfl,l,s,m⟩:=c.sy.g0.at ds;have⟨aX,eD,gS,fL,c6,w,bn,c4,eb⟩:=c.sy.g3.at (x:=me.t) (i:=d.toNat) (by simp[K]);rw[aH]at w eb;subst w;have bS:=H.fh l;have eM:=H.fh bn;have er:(1=D)=False:=by have:=(c.sy.b D (.inl rfl)).1;simp;omega
    have gE:(1=aX)=False:=by have:=(c.sy.b aX (.inr (.inr rfl))).1;simp;omega
    have et:(aX=D)=False:=by simp;rintro rfl;rw[l]at bn;simp at bn
    have e0:∀x,(c6.set d.toNat x)[d.toNat]? =some x:=λx=>by
     have:d.toNat<c6.length:=by
      rcases aR d.toNat c6.length with k|k
      ·exact k
      ·rw[bK k]at c4;simp at c4
     rw[bV];simp[this]
    have b7:∀A,(dZ a8 D A).get aX=some ⟨3,eD,gS,fL,false,c6⟩:=λA=>by rw[dN l,aq (by simpa using et)];exact bn
    have e9:=λA z=>nd (b7 A) (show 1≠aX by simpa using gE) z;have eC:=λ(f:dR->dR) (u:(f W).ew=W.ew)=>c.pw rfl l L f (rv:=rv) (by rw[u];exact V) aA;rcases g with rfl|rfl|rfl|rfl
    ·have c9:=(eC (λj=>{j with iB:=-1}) rfl).nT rfl (b7 _) K (λx=>{x with ij:=3});have bC:=c9.nT (me:=(λx=>{x with ij:=3}) me) rfl ((dN (b7 _) _ _).trans (ar rfl)) (i:=d.toNat) (by simp[K]) (λx=>{x with cond:=e});simp only[Cp,List.set_set]at bC;simp[I,F,eE,c.g1,E,fe,bB,dn,l,bn,s,c4,m,eb,mL,c.ok.hp,bS,eM,er,et,e0,e9];exact⟨_,_,_,show eY q a d 16 e r=((a.pw o.kv λj=>{j with iB:=-1}).nT d (λx=>{x with ij:=3,cond:=e}),0)by simp[eY,eN],bC⟩
    ·have c9:=(eC (λj=>{j with iB:=d}) rfl).nT rfl (b7 _) K (λx=>{x with ij:=2});have bC:=c9.nT (me:=(λx=>{x with ij:=2}) me) rfl ((dN (b7 _) _ _).trans (ar rfl)) (i:=d.toNat) (by simp[K]) (λx=>{x with cond:=0});simp only[Cp,List.set_set]at bC;simp[I,F,eE,c.g1,E,fe,bB,dn,l,bn,s,c4,m,eb,mL,c.ok.hp,bS,eM,er,et,e0,e9];exact⟨_,_,_,show eY q a d 17 e r=((a.pw o.kv λj=>{j with iB:=d}).nT d (λx=>{x with ij:=2,cond:=0}),0)by simp[eY,eN],bC⟩
    ·simp[F,c.g1];refine iC Dm dy ⟨a,_,_,_,e⟩ ⟨rfl,c.sy.g3,ht,c.ok⟩ ?_;rintro N al ⟨v,Q,_⟩;simp only at v;have P:=c.nb Q;have ef:=CN e a.dH 0;have U:=λa7:H=>v.len (cx:=cx) a7 qm _ rfl;rw[aH]at U;simp[U];refine ej (λav=>?_) (λav=>?_)
     ·have ca:0<(iw e a.dH 0).length:=by simpa using av
      have⟨p,cb,cp⟩:=v.idx (te:=EM) rfl rfl (i:=0) (x:= Z (iw e a.dH 0)[0]) (by simp[ca]) rfl;have gi:=v.rS (f:=T.int .i64) (λ_=>by simp) (λ_=>rfl);have fB:=λ{tb:fJ} (ht:tb.p 31=some C6)=>RC ht (iw e a.dH 0) r J;have eR:(iw e a.dH 0).headD (-1)=(iw e a.dH 0)[0]:=by
       clear cb cp v U ef;generalize iw e a.dH 0=j at*
       cases j with
       |nil=>simp at ca
       |cons x j=>simp
      simp[eH,cb,cp,gi,fB];have M:∃y:Nat,vq e r a.dH=y/\y<a.dH.length:=by
       have b8:vq e r a.dH∈iw e a.dH 0:=by
        unfold vq;split
        ·assumption
        ·rw[eR];exact aF ca
       have⟨y,B,R⟩:=t9 b8;exact⟨y,by simpa using B,R⟩
      obtain⟨y,ec,R⟩:=M;refine ll (λC an=>an=al/\dF C 17 (Z y)/\dF C 7 (.ptr 1 0 0 0)/\dF C 12 (.ptr 2 0 0 0)) (λav=>?_) (λav=>?_) ?_
      ·simp[eH];rw[<-ec];unfold vq;rw[ar (by simpa using av)]
      ·simp;rw[<-ec,<-eR];unfold vq;rw[aq (by simpa using av)]
      ·rintro C _ ⟨rfl,gm,ae,Y⟩;have⟨O,M⟩:∃O,a.dH[y]? =some O:=⟨_,az R⟩;have⟨fs,fC,gV,fS,gZ,bT,bs,eh,gy⟩:=P.sy.g3.at (x:=O.t) (i:=y) (by simp[M]);simp at bT;obtain⟨rfl,rfl⟩:=bT;simp[ae,Y,gm,P.g1,bs,eh,R];exact⟨_,_,_,show eY q a d 18 e r=(a.nT y (ka 4),(y:Int))by
        rw[<-ec];unfold eY;simp;intro u;rw[u]at ca;simp at ca,P.nT rfl bs M (ka 4)⟩
     ·have gD:iw e a.dH 0=[]:=by
       have:¬0<(iw e a.dH 0).length:=by simpa using av
       exact bg J
      simp;exact⟨_,_,_,show eY q a d 18 e r=(a,-1)by simp[eY,gD],P⟩
    ·simp[F,c.g1];refine iC Dm dy ⟨a,_,_,_,e⟩ ⟨rfl,c.sy.g3,ht,c.ok⟩ ?_;rintro N al ⟨v,Q,gQ⟩;simp only at v;have P:=c.nb Q;have ef:=CN e a.dH 0;have U:=λa7:H=>v.len (cx:=cx) a7 qm _ rfl;rw[aH]at U;have eW:∀x∈iw e a.dH 0,∃y:Nat,x=y/\y<a.dH.length:=λx s=>by
      have⟨y,B,R⟩:=t9 s;exact⟨y,by simpa using B,R⟩
     have dk:=Tt e a.dH [];simp only[List.nil_append,cM]at dk;have c1:∃j,j=iw e a.dH 0:=⟨_,rfl⟩;obtain⟨j,c1⟩:=c1;rw[<-c1]at v ef eW dk U;simp;refine fD j.length J (λi C h'=>Bs (.arr D ep 0 es.length false) c2 (.arr aX eD 0 a.dH.length false) h' es {a with dH:=NE a.dH (j.take i)} 1/\pY h' 1 N (ge j)/\dF C 7 (.ptr 1 0 0 0)/\dF C 12 (.ptr 2 0 0 0)/\dF C 18 N/\dF C 19 (Z i)) ?_ ?_ J ⟨by simpa[NE]using P,v,dy⟩
     ·rintro i C h' m gv ⟨a6,eu,ae,Y,dd,de⟩;have⟨y,R,eV⟩:=eW j[i] (aF m);have⟨O,M⟩:∃O,(NE a.dH (j.take i))[y]? =some O:=⟨_,az (by rw[Ts];exact eV)⟩;have⟨fs,fC,gV,fS,gZ,bT,bs,eh,gy⟩:=a6.sy.g3.at (x:=O.t) (i:=y) (by simp[M]);simp at bT;obtain⟨rfl,rfl,_⟩:=bT;have⟨p,cb,cp⟩:=eu.idx (te:=EM) rfl rfl (i:=i) (x:= Z y) (by simp[m,R]) rfl;have fo:=a6.nT rfl bs M (ka 4);simp[ae,Y,dd,de,U,m,cb,cp,a6.g1,bs,eh,eV,gv];refine⟨?_,eu.mono λo u=>by rw[dN bs,aq (by have:=gQ o u;omega)]⟩;rw[QF a.dH j m,R];exact fo
     ·rintro C h' ⟨a6,eu,ae,Y,dd,de⟩;rw[aK]at a6;simp[ae,Y,dd,de,U];exact⟨_,_,_,show eY q a d 19 e r=({a with dH:=NE a.dH j},(j.length:Int))by rw[dk];simp[eY,<-c1],a6⟩
   ·have G:=pN b9 g;rw[<-e8]at G;have⟨O,M,gB⟩:=iD G;have E:=eG (eZ.1 G).1;rcases g with rfl|rfl
    ·have⟨D,ep,aE,ex,aN,w,l,s,m⟩:=c.sy.g3.at (x:=O.t) (i:=e.toNat) (by simp[M]);rw[aH]at w m;subst w;simp[F,c.g1,E,l,s,m];exact⟨_,_,_,show eY q a d 20 e r=(a.nT e (ka 1),0)by simp[eY],c.nT rfl l M (ka 1)⟩
    ·simp;exact⟨_,_,_,show eY q a d 21 e r=(a,0)by simp[eY],c⟩
   ·have G:=rO b9 g;rw[<-gP]at G;have⟨O,M,gB⟩:=iD G;have E:=eG (eZ.1 G).1;rcases g with rfl|rfl
    ·have⟨D,ep,aE,ex,aN,w,l,s,m⟩:=c.sy.g2.at (x:= .bool O) (i:=e.toNat) (by simp[M]);rw[aH]at w m;subst w;simp[F,c.g1,E,l,s,m];exact⟨_,_,_,show eY q a d 22 e r=({a with done:=a.done.set e.toNat true},0)by simp[eY],c.Zf rfl l e.toNat true⟩
    ·simp;exact⟨_,_,_,show eY q a d 23 e r=(a,0)by simp[eY],c⟩
  ·rintro C an ⟨n,⟨S,fE,ver,gw,X⟩,ae,Y,gk⟩;have⟨hg,hh,hj⟩:=X.sy.fz;have gj:∀A,(dZ an 2 A).get 2=some A:=λA=>(dN X.g2 A _).trans (ar rfl);have c7:∀A,Cf 3 an.size (dZ an 2 A) c0 c2 c3 fE S:=λA=>X.sy.mono (aw _) λo u _=>by rw[dN X.g2,aq J]
   have fY:=λA=>(c7 A).fz.1;have gd:=λA=>(c7 A).fz.2.1;have gg:=λA=>(c7 A).fz.2.2;simp[ae,Y,gk,X.g1,X.g2,gj,dX,fY,gd,gg,gw,X.ok.hp]
end
def nC:gG:=⟨dY×eQ×ez,λa=>[a.1.t,a.2.1.t,a.2.2.t],λa=>a.1.gF.length<=1000000/\sO 100000 a.2.1/\a.2.2.mo.length<=1000000/\a.2.2.uF.length<=1000000,λa=> .tuple [(jO a.1 a.2.1 a.2.2).1.t,.bool (jO a.1 a.2.1 a.2.2).2],λa c b=>by
 simp at b;rw[dY.inj b.1,eQ.inj b.2.1,ez.inj b.2.2]⟩
def lI{c:dY}{b:eQ}{a:ez}(d:qA c b a=false):jO c b a=(tQ,false):=by unfold jO;rw[d];rfl
def Je{g:fJ}(ht:g.p 51=some qV)(b:dY)(a:fq)(e c d f:Int)(i:b.gF.length<=1099511627776)(k:OM a)(j:iG b a e c d=true):rl prog cx g 51 [b.t,a.t,Z e,Z c,Z d,Z f]=some (.tuple [(eY b a e c d f).1.t,Z (eY b a e c d f).2,.bool true]):=by
 have:=im ht FK (b,a,e,c,d,f) ⟨i,k⟩;have h:qV.R (b,a,e,c,d,f)= .tuple [(eY b a e c d f).1.t,Z (eY b a e c d f).2,.bool true]:=by show yH _=_;unfold yH;rw[ar j]
 rw[h]at this;exact this
def PQ:nC.Ok prog cx 80:=by
 refine fZ [(82,xh),(125,HY),(47,mv),(126,wj),(127,uh),(51,qV)] (iX 6434029281764525972148499167221040878727244754944919609542655 [(15,[(3,4),(3,6),(3,8),(7,8),(3,10),(7,10),(3,13),(7,13),(11,13)])] func80) (λ_=>100) (by simp[nC]) ?_;rintro⟨e,d,b⟩ ⟨fY,ae,gi,gj⟩ j eL;simp at fY ae gi gj;simp[nC]at eL|-;obtain⟨fE,fL,fS⟩:=eL;have⟨l1,l2,l3,l4,l5,l6⟩:=ae.l;have gv:d.fj.sm:=⟨J,J,J,λf q=>by have:=ae.r f q;omega⟩;have eN:e.gF.length<=1099511627776:=J;have gw:OM d.fj:=⟨J,J,J,λf q=>by have:=ae.r f q;omega,ae.a⟩;have h:qA e d b=(mB e d&&iN b.dP e.dH.length&&(decide (1<=b.kind)&&decide (b.kind<=23))&&iG e d.fj b.dP b.kind b.obj&&sZ e b&&LZ e b&&LS b&&yp (d.count.getD b.dP.toNat 0) none b.mo&&yp (d.count.getD b.dP.toNat 0) none b.uF&&ot d b):=rfl;simp[f80,fE,fL,fS,Hl,RB,vh,eN,gv];have V:T.agg [sl [],Z 0,sl [],sl [],sl [],sl [],sl []]=tQ.t:=rfl;refine ej (λg=>?_) (λg=>?_)
 ·have:qA e d b=false:=by
   rw[h];simp only[bY,cg,aO]at g;rcases g with(((q|q)|q)|q)|q
   ·rw[q];simp
   ·rw[q];simp
   ·rw[aM (show¬1<=b.kind by omega)];simp
   ·rw[aM (show¬b.kind<=23 by omega)];simp
   ·rw[q];simp
  simp[lI this];exact V
 simp only[cz,cH,bU]at g;obtain⟨⟨⟨⟨eD,eE⟩,hb⟩,hd⟩,bS⟩:=g;rw[eD,eE,bS,aV (show 1<=b.kind by omega),aV (show b.kind<=23 by omega)]at h;simp only[aZ]at h;have bT:=bS;unfold iG at bT;simp only[aB]at bT;obtain⟨⟨⟨hg,_⟩,o⟩,_⟩:=bT;have b7:=eD;unfold mB at b7;simp only[aB,aO]at b7;obtain⟨⟨⟨_,eH⟩,eI⟩,fC⟩:=b7;have aN:=eE;rw[<-fC]at aN;have⟨z,X,hf⟩:=iD aN;have gZ:=eG (eZ.1 aN).1;have gk:d.count.getD b.dP.toNat 0=z:=by simp[List.getD,X]
 rw[gk]at h;simp;generalize N:(((hE.cons _).cons _).cons _).cons _=w;have Q:il 0 w:=by rw[<-N];exact⟨dy,dy,dy⟩
 have e9:w.size=4:=by rw[<-N];rfl
 have a8:w.get 0=some (dE 6 0 [e.t]):=by rw[<-N];simp
 have bB:w.get 1=some (dE 7 0 [d.t]):=by rw[<-N];simp
 have I:w.get 2=some (dE 7 0 [b.t]):=by rw[<-N];simp
 have D:w.get 3=some (dE 7 0 [.agg [dD,Z 0,dD,dD,dD,dD,dD]]):=by rw[<-N];simp
 clear N;have W:∀y,(dZ w 3 y).get 3=some y:=λy=>(dN D y _).trans (ar rfl);refine ll (λj u=>w=u/\sZ e b=true/\dF j 3 (.ptr 0 0 0 0)/\dF j 4 (.ptr 1 0 0 0)/\dF j 5 (.ptr 2 0 0 0)/\dF j 6 (.ptr 3 0 0 0)) (λg=>?_) (λg=>?_) ?_
 ·have Y:b.kind=1\/b.kind=2:=by simpa using g
  simp[I];refine ej (λi=>?_) (λi=>?_)
  ·have:qA e d b=false:=by
    rw[h];unfold sZ;rw[ar Y,aM (by simpa using i)];simp
   simp[D,W,dX,lI this,Q.hp];exact V
  ·simp;unfold sZ;rw[ar Y,aV (by simpa using i)]
 ·have Y:¬(b.kind=1\/b.kind=2):=by simpa using g
  cases B:iN b.jk e.iJ.length with
  |false=>
   have:qA e d b=false:=by
    rw[h];unfold sZ;rw[aq Y,nM B];simp
   simp[a8,I,RB,B,D,W,dX,lI this,Q.hp];exact V
  |true=>
   have⟨x,gz,eS⟩:=iD B;simp[a8,I,RB,B,gz,eG (eZ.1 B).1];refine ej (λi=>?_) (λi=>?_)
   ·have:qA e d b=false:=by
     rw[h];unfold sZ;rw[aq Y,eS];simp only;rw[aM (by simpa using i)];simp
    simp[D,W,dX,lI this,Q.hp];exact V
   ·simp;unfold sZ;rw[aq Y,eS];simp only;rw[aV (by simpa using i)]
 ·rintro j _ ⟨rfl,gn,M,E,v,A⟩;rw[gn,aZ]at h;have gE:((decide (b.kind=3)||decide (b.kind=4))=false/\True/\True/\(b.kind=3\/b.kind=4->∃n,e.cells[b.obj.toNat]? =some n)/\∃x:iq,x=x/\True)\/((decide (b.kind=3)||decide (b.kind=4))=true/\kt b.obj=some b.obj.toNat/\iN b.obj e.cells.length=true/\True/\∃n,e.cells[b.obj.toNat]? =some n/\sizeOf e b.obj=n.size):=by
   cases q:(decide (b.kind=3)||decide (b.kind=4))
   ·simp at q;exact .inl ⟨rfl,trivial,trivial,λk=>(k.elim q.1 q.2).elim,default,rfl,trivial⟩
   ·simp at q;have B:iN b.obj e.cells.length=true:=by
     unfold jE at o;rw[aq J,ar q]at o;exact o
    have⟨n,gd,gg⟩:=iD B;exact .inr ⟨rfl,eG (eZ.1 B).1,B,trivial,n,gd,by simp[sizeOf,gg]⟩
  have bn:LZ e b=(decide (b.mo=[])||decide (b.kind=5)||((decide (b.kind=3)||decide (b.kind=4))&& !decide (sizeOf e b.obj=0))):=rfl;have cp:decide (0<b.mo.length)= !decide (b.mo=[]):=by cases b.mo<;>simp
  have cL:decide (0<b.uF.length)= !decide (b.uF=[]):=by cases b.uF<;>simp
  have c1:LS b=(decide (b.uF=[])||decide (b.kind=4)||decide (b.kind=22)):=rfl;have fe:b.kind=3->iN b.obj d.cells.length=true:=λk=>by
   rw[eH];unfold jE at o;rw[aq J,ar J]at o;exact o
  have fb:b.kind=23->iN b.obj d.ee.length=true:=λk=>by
   rw[eI];exact rO o (.inr k)
  rcases gE with⟨c9,eU,gB,gD,ff,eV,dm⟩|⟨c9,eU,gB,gD,ff,eV,dm⟩
  all_goals
   simp[M,v,a8,I,c9,eU,eV];rw[c9]at bn;refine ej (λg=>?_) (λg=>?_)
   ·have:qA e d b=false:=by
     rw[h,bn];simp[cp]at g;simp[g,dm]
    simp[A,D,W,dX,lI this,Q.hp];exact V
   have eO:LZ e b=true:=by
    rw[bn];cases R:decide (b.mo=[])<;>cases s:decide (b.kind=5)<;>simp[cp,R,s,dm]at g|-
    all_goals exact g
   rw[eO,aZ]at h;simp[v,I];refine ej (λi=>?_) (λi=>?_)
   ·have:qA e d b=false:=by
     rw[h,c1];simp[cL]at i;simp[i]
    simp[A,D,W,dX,lI this,Q.hp];exact V
   have eP:LS b=true:=by
    rw[c1];cases R:decide (b.uF=[])<;>cases s:decide (b.kind=4)<;>simp[cL,R,s]at i|-
    all_goals exact i
   rw[eP,aZ]at h;have fB:=λ{eb:fJ} (ht:eb.p 127=some uh)=>Rq ht d b J fe fb;simp[E,v,bB,I,gZ,X,Rv,fB,show b.mo.length<=1099511627776 by omega,show b.uF.length<=1099511627776 by omega];refine ej (λbs=>?_) (λbs=>?_)
   ·have:qA e d b=false:=by
     rw[h];cases R:yp z none b.mo<;>cases s:yp z none b.uF<;>cases ea:ot d b<;>simp[R,s,ea]at bs|-
    simp[A,D,W,dX,lI this,Q.hp];exact V
   have gm:qA e d b=true:=by
    rw[h];cases R:yp z none b.mo<;>cases s:yp z none b.uF<;>cases ea:ot d b<;>simp[R,s,ea]at bs|-
   clear g i bs h bn c1 cp cL eO eP;have gy:jO e d b=(kj e d b,true):=by unfold jO;rw[ar gm]
   rw[gy];have⟨fs,a6,bC,⟨hh,ho,gA⟩,er,al,e4⟩:=kq (cx:=cx) (sz:=1) Q (x:=sl (d.cells.map (T.int .i64))) (xs:=d.cells.map (T.int .i64)) pi rfl zR pi rfl rfl dy dy (by simp[T.cells]) dz;have⟨fv,a7,bH,⟨hj,hq,eF⟩,et,P,okB⟩:=kq (cx:=cx) (sz:=1) e4 (x:=sl (d.ee.map (T.int .i64))) (xs:=d.ee.map (T.int .i64)) pi rfl zR pi rfl rfl dy dy (by simp[T.cells]) dz;have⟨fA,U,bN,⟨hn,hs,gC⟩,eu,G,e5⟩:=kq (cx:=cx) (sz:=1) okB (x:=sl (d.count.map (T.int .i64))) (xs:=d.count.map (T.int .i64)) j9 rfl mY j9 rfl rfl dy dy (by simp[T.cells]) dz;replace er:a6.size=5:=J;replace et:a7.size=6:=J;replace eu:U.size=7:=J;simp only[e9,er,et,aH]at bC bH bN gA eF gC;have e7:fk (w.cons (dE 1 0 [])) a6 1=true:=fG ((al 1 J).trans (by rw[dS,aq J]));have e8:fk (a6.cons (dE 1 0 [])) a7 1=true:=fG ((P 1 J).trans (by rw[dS,aq J]));have gV:fk (a7.cons (dE 1 0 [])) U 1=true:=fG ((G 1 J).trans (by rw[dS,aq J]));have eA:=(al 1 J).trans bB;have eB:=(P 1 J).trans eA;have fi:=(G 1 J).trans eB;have e0:∀m,5<=m->fk (w.cons (dE 1 0 [])) a6 m=true:=λm eM=>jf (lz _ dz);have eW:∀m,6<=m->fk (a6.cons (dE 1 0 [])) a7 m=true:=λm eM=>jf (lz _ dz);have eX:∀m,7<=m->fk (a7.cons (dE 1 0 [])) U m=true:=λm eM=>jf (lz _ dz);have gM:U.low<=7:=by have:=e5.low;omega
   simp[E,v,e9,er,et,eu,bB,bC,bH,bN,eA,eB,e7,e8,e0,eW,eX,gM];have gP:=(G 4 J).trans ((P 4 J).trans gA);have gQ:=(G 5 J).trans eF;have fl:=(G 0 J).trans ((P 0 J).trans ((al 0 J).trans a8));have eC:=(G 2 J).trans ((P 2 J).trans ((al 2 J).trans I));have fo:=(G 3 J).trans ((P 3 J).trans ((al 3 J).trans D));have ca:=λ{eb:fJ} (ht:eb.p 51=some qV)=>Je ht e d.fj b.dP b.kind b.obj (kW b) eN gw bS;have ha:=ae.c z (ay X);clear bC bH bN al P G e7 e8 gV e0 eW eX e4 okB;generalize aA:U.cons _=av;have gS:il 0 av:=by rw[<-aA];exact e5.cons _
   have ey:av.size=8:=by rw[<-aA];show U.size+1=8;omega
   have L:∀n,n<7->av.get n=U.get n:=λn q=>by rw[<-aA,dS,aq J]
   have c7:=(L 0 J).trans fl;have dd:=(L 1 J).trans fi;have bu:=(L 2 J).trans eC;have de:=(L 3 J).trans fo;have di:=(L 4 J).trans gP;have dk:=(L 5 J).trans gQ;have dn:=(L 6 J).trans gC;have ds:av.get 7=some (dE 7 1 [.agg [dD,Z 0,dD,dD,.arr 4 fs 0 d.cells.length false,.arr 5 fv 0 d.ee.length false,.arr 6 fA 0 d.count.length false]]):=by rw[<-aA,dS,ar eu.symm]
   clear aA;simp[eC];refine ll (λj u=>av=u/\dF j 3 (.ptr 0 0 0 0)/\dF j 4 (.ptr 1 0 0 0)/\dF j 5 (.ptr 2 0 0 0)/\dF j 6 (.ptr 3 0 0 0)/\dF j 9 (.ptr 7 0 0 0)/\dF j 10 (Z (kW b))) (λg=>?_) (λg=>?_) ?_
   ·simp[M,E,v,A,bu];unfold kW;rw[ar (by simpa using g)]
   ·simp[M,E,v,A];unfold kW;rw[aq (by simpa using g)]
   rintro j _ ⟨rfl,M,E,v,A,b9,b8⟩;have dv:binop .add (Z z) (Z 1)=some (Z (z+1)):=iL J J;have eh:=eG (eZ.1 aN).1;have aE:=(eZ.1 aN).2;have eR:kj e d b=⟨(eY e d.fj b.dP b.kind b.obj (kW b)).1,if b.kind=4 then d.cells.set b.obj.toNat b.value else d.cells,if b.kind=22 then d.ee.set b.obj.toNat b.value else d.ee,d.count.modify b.dP.toNat (· +1)⟩:=rfl;rw[oz X]at eR;have gI:(b.kind=4/\iN b.obj d.cells.length=true)\/(b.kind=22/\iN b.obj d.ee.length=true)\/(¬b.kind=4/\¬b.kind=22):=by
    by_cases q:b.kind=4
    ·refine .inl ⟨q,?_⟩;rw[eH];unfold jE at o;rw[aq J,ar J]at o;exact o
    ·by_cases s:b.kind=22
     ·refine .inr (.inl ⟨s,?_⟩);rw[eI];exact rO o (.inl s)
     ·exact .inr (.inr ⟨q,s⟩)
   have c6:=gS.hp;have bi:∀(f:List Int) (u:H),fQ (xS u 11) (f.map (T.int .i64))=some (f.map (T.int .i64)):=λf u=>Iu _ _ _ λ_=>rfl;have b6:∀(f:List Int) (u:H) (O:Nat) (S:Int),fQ (xS u 11) ((f.map (T.int .i64)).set O (Z S))=some ((f.map (T.int .i64)).set O (Z S)):=λf u O S=>by rw[<-br];exact bi _ u
   have ec:∀(f:List Int),(f.map (T.int .i64)).take f.length=f.map (T.int .i64):=λf=>by rw[bJ dy]
   have ef:∀(f:List Int) (O:Nat) (S:T),((f.map (T.int .i64)).set O S).take f.length=(f.map (T.int .i64)).set O S:=λf O S=>by rw[bJ dy]
   have cb:d.count[b.dP.toNat]'aE=z:=by rw[az aE]at X;simpa using X
   have fin:∀(C F K:List Int),T.agg [sl ((eY e d.fj b.dP b.kind b.obj (kW b)).1.ei.map dR.t),Z (eY e d.fj b.dP b.kind b.obj (kW b)).1.tx,sl ((eY e d.fj b.dP b.kind b.obj (kW b)).1.done.map T.bool),sl ((eY e d.fj b.dP b.kind b.obj (kW b)).1.dH.map dJ.t),sl (C.map (T.int .i64)),sl (F.map (T.int .i64)),sl (K.map (T.int .i64))]=eQ.t ⟨(eY e d.fj b.dP b.kind b.obj (kW b)).1,C,F,K⟩:=λ_ _ _=>rfl;rw[eR];rcases gI with⟨q,aX⟩|⟨q,aX⟩|⟨q,e6⟩
   ·have eo:=eG (eZ.1 aX).1;have c4:=(eZ.1 aX).2;have an:decide (b.kind=22)=false:=aM J;have ap:decide (b.kind=4)=true:=aV q;rw[ar q,aq J,<-fin];simp[M,E,v,A,b9,b8,c7,dd,bu,de,di,dk,dn,ds,ca,dX,mL,c6,ey,eh,aE,cb,dv,wK,ig,bi,ap,an,eo,c4,b6,ec,ef]
   ·have eo:=eG (eZ.1 aX).1;have c4:=(eZ.1 aX).2;have an:decide (b.kind=22)=true:=aV q;have ap:decide (b.kind=4)=false:=aM J;rw[aq J,ar q,<-fin];simp[M,E,v,A,b9,b8,c7,dd,bu,de,di,dk,dn,ds,ca,dX,mL,c6,ey,eh,aE,cb,dv,wK,ig,bi,ap,an,eo,c4,b6,ec,ef]
   ·have an:decide (b.kind=22)=false:=aM e6;have ap:decide (b.kind=4)=false:=aM q;rw[aq q,aq e6,<-fin];simp[M,E,v,A,b9,b8,c7,dd,bu,de,di,dk,dn,ds,ca,dX,mL,c6,ey,eh,aE,cb,dv,wK,ig,bi,ap,an,b6,ec,ef]
def Cy{d:fJ}(ht:d.p 80=some nC)(c:dY)(b:eQ)(a:ez)(e:c.gF.length<=1000000)(f:sO 100000 b)(g:a.mo.length<=1000000)(h:a.uF.length<=1000000):rl prog cx d 80 [c.t,b.t,a.t]=some (.tuple [(jO c b a).1.t,.bool (jO c b a).2]):=im ht PQ (c,b,a) ⟨e,f,g,h⟩
end
end
noncomputable section
open Go Go.TI Tryz
section
attribute [-simp] List.map_take List.map_drop List.map_append
def KA(a b:Int):Bool:=decide (0<=a/\a<b)
@[simp]def abV (a:Int) (b:Nat):KA a (b:Int)=iN a b:=id rfl
def QW{a b:Int}:KA a b=true↔0<=a/\a<b:=by unfold KA;simp
def Ws(d:Unit):gG:=⟨Int×Int,λa=>[Z a.1,Z a.2],λa=>True,λa=> .bool (KA a.1 a.2),λa c b=>by simp at b;rw[b.1,b.2]⟩
def WS:(Ws ()).Ok prog cx 175:=by
 refine fZ [] (iX 19 [] func175) (λf=>1) (by simp[Ws]) ?_;rintro⟨e,g⟩ _ h a;simp[Ws]at a|-;obtain⟨b,c⟩:=a;by_cases d:0<=e<;>simp[f175,b,c,d,KA]
def vC{c:fJ}(ht:c.p 175=some (Ws ()))(a b:Int):rl prog cx c 175 [Z a,Z b]=some (.bool (KA a b)):=im ht WS (a,b) trivial
def xc:gG:=⟨Int,λa=>[Z a],λa=>True,λa=> .bool (wZ a),λa c b=>by simp at b;rw[b]⟩
def J9:xc.Ok prog cx 218:=by
 refine fZ [] (iX 5 [] func218) (λd=>1) (by simp[xc]) ?_;rintro(c:Int) _ e a;simp[xc]at a|-;by_cases b:1<=c<;>simp[f218,a,b,wZ]
def xC{b:fJ}(ht:b.p 218=some xc)(a:Int):rl prog cx b 218 [Z a]=some (.bool (wZ a)):=im ht J9 a trivial
def xe:gG:=⟨Nat,λa=>[.int .u8 a],λa=>True,λa=> .bool (uY a),λa b c=>by simp at c;rw[show a=b by omega]⟩
def Da:gG:=⟨Nat,λa=>[.int .u8 a],λa=>True,λa=> .bool (El a),λa b c=>by simp at c;rw[show a=b by omega]⟩
def C5:gG:=⟨Nat,λa=>[.int .u8 a],λa=>True,λa=> .bool (wI a),λa b c=>by simp at c;rw[show a=b by omega]⟩
def Qb:xe.Ok prog cx 170:=by
 refine fZ [] (iX 5 [] func170) (λg=>1) (by simp[xe]) ?_;rintro(a:Nat) _ h b;simp[xe]at b|-;by_cases c:97<=a<;>by_cases d:a<=122<;>by_cases e:65<=a<;>by_cases f:a<=90<;>simp[f170,b,uY,c,d,e,f,show(97:Int)<=(a:Int)↔97<=a by omega,show(a:Int)<=122↔a<=122 by omega,show(65:Int)<=(a:Int)↔65<=a by omega,show(a:Int)<=90↔a<=90 by omega]
def CB{b:fJ}(ht:b.p 170=some xe)(a:Nat):rl prog cx b 170 [.int .u8 a]=some (.bool (uY a)):=im ht Qb a trivial
def Ti:Da.Ok prog cx 216:=by
 refine fZ [] (iX 5 [] func216) (λe=>1) (by simp[Da]) ?_;rintro(a:Nat) _ f b;simp[Da]at b|-;by_cases c:48<=a<;>by_cases d:a<=57<;>simp[f216,b,El,c,d,show(48:Int)<=(a:Int)↔48<=a by omega,show(a:Int)<=57↔a<=57 by omega]
def X6{b:fJ}(ht:b.p 216=some Da)(a:Nat):rl prog cx b 216 [.int .u8 a]=some (.bool (El a)):=im ht Ti a trivial
def Te:C5.Ok prog cx 172:=by
 refine fZ [(170,xe),(216,Da)] (iX 5 [] func172) (λe=>1) (by simp[C5]) ?_;rintro(a:Nat) _ f b;simp[C5]at b|-;cases c:uY a<;>cases d:El a<;>simp[f172,b,wI,CB,X6,c,d,show(a:Int)=95↔a=95 by omega]
def Rz{b:fJ}(ht:b.p 172=some C5)(a:Nat):rl prog cx b 172 [.int .u8 a]=some (.bool (wI a)):=im ht Te a trivial
def wq:gG:=⟨dY×Int×Int,λa=>[a.1.t,Z a.2.1,Z a.2.2],λa=>True,λa=> .bool (A3 a.1 a.2.1 a.2.2),λa c b=>by simp at b;rw[dY.inj b.1,b.2.1,b.2.2]⟩
def Nz:wq.Ok prog cx 217:=by
 refine fZ [(175,Ws ())] (iX 79 [] func217) (λl=>1) (by simp[wq]) ?_;rintro⟨k,h,m⟩ _ n c;simp[wq]at c|-;obtain⟨a,b,e⟩:=c;cases hl:iN h k.cells.length with
 |true=>
  have⟨d,f,g⟩:=iD hl;by_cases i:d.index=0<;>by_cases j:d.size=0<;>simp[f217,a,b,e,vC,hl,f,g,A3,eG (eZ.1 hl).1,i,j]
 |false=>simp[f217,a,b,vC,hl,nM hl,A3]
def RG{d:fJ}(ht:d.p 217=some wq)(c:dY)(a b:Int):rl prog cx d 217 [c.t,Z a,Z b]=some (.bool (A3 c a b)):=im ht Nz (c,a,b) trivial
def ox:gG:=⟨fR,λa=>[a.t],λa=>True,λa=>sl ((jb a).map (T.int .i64)),λa c b=>by simp at b;rw[fR.inj b]⟩
def EU:ox.Ok prog cx 106:=by
 refine fZ [] (iX 8934607822903 [] func106) (λc=>1) (by simp[ox]) ?_;rintro⟨a,c,o,p,q,r⟩ _ s b;simp[ox]at b|-;rcases(by omega:a=1\/a=6\/a=10\/a=27\/a=2\/a=3\/a=4\/a=7\/a=8\/a=26\/a=9\/(¬a=1/\¬a=6/\¬a=10/\¬a=27/\¬a=2/\¬a=3/\¬a=4/\¬a=7/\¬a=8/\¬a=26/\¬a=9))with rfl|rfl|rfl|rfl|rfl|rfl|rfl|rfl|rfl|rfl|rfl|⟨d,g,h,i,j,k,l,m,n,e,f⟩
 rotate_right
 ·simp[f106,b,jb,d,g,h,i,j,k,l,m,n,e,f]
 all_goals simp [f106,b,jb,ig,sl]
def vf{b:fJ}(ht:b.p 106=some ox)(a:fR):rl prog cx b 106 [a.t]=some (sl ((jb a).map (T.int .i64))):=im ht EU a trivial
def wi:gG:=⟨dY×fR,λa=>[a.1.t,a.2.t],λa=>True,λa=> .bool (mH a.1 a.2),λa c b=>by simp at b;rw[dY.inj b.1,fR.inj b.2]⟩
def Np:wi.Ok prog cx 173:=by
 refine fZ [(175,Ws ()),(217,wq)] (iX 11161304336780981658631819976322344575566047 [] func173) (λf=>1) (by simp[wi]) ?_;rintro⟨h,⟨a,f,l,F,j,G⟩⟩ _ H i;simp[wi]at i|-;obtain⟨b,c⟩:=i;rcases(by omega:a=3\/a=4\/a=7\/a=9\/a=21\/a=22\/a=23\/a=24\/a=25\/a=26\/a=27\/a=6\/a=8\/a=11\/a=12\/a=13\/a=14\/a=15\/a=16\/(¬a=3/\¬a=4/\¬a=6/\¬a=8/\¬a=7/\¬a=9/\¬a=11/\¬a=12/\¬a=13/\¬a=14/\¬a=15/\¬a=16/\¬a=21/\¬a=22/\¬a=23/\¬a=24/\¬a=25/\¬a=26/\¬a=27))with rfl|rfl|rfl|rfl|rfl|rfl|rfl|rfl|rfl|rfl|rfl|rfl|rfl|rfl|rfl|rfl|rfl|rfl|rfl|⟨m,x,A,B,C,D,E,n,o,p,q,r,s,t,u,v,w,y,z⟩
 rotate_right
 ·simp[f173,b,c,mH,m,x,A,B,C,D,E,n,o,p,q,r,s,t,u,v,w,y,z]
 ·by_cases g:j=4<;>simp[f173,b,c,mH,g]
 ·by_cases g:6<=j<;>simp[f173,b,c,mH,g]
 iterate 9 ·simp[f173,b,c,mH,vC,RG]
 ·cases hl:iN l h.cells.length with
  |true=>
   have⟨k,d,e⟩:=iD hl;simp[f173,b,c,mH,vC,hl,d,e,w7,eG (eZ.1 hl).1]
  |false=>simp[f173,b,c,mH,vC,hl,nM hl,w7]
 ·cases hl:iN f h.cells.length with
  |true=>
   have⟨k,d,e⟩:=iD hl;simp[f173,b,c,mH,vC,hl,d,e,w7,eG (eZ.1 hl).1]
  |false=>simp[f173,b,c,mH,vC,hl,nM hl,w7]
 all_goals
  cases hl:iN f h.ei.length with
  |true=>
   have⟨k,d,e⟩:=iD hl;simp[f173,b,c,mH,vC,hl,d,e,ux,eG (eZ.1 hl).1]
  |false=>simp[f173,b,c,mH,vC,hl,nM hl,ux]
def Ru{c:fJ}(ht:c.p 173=some wi)(b:dY)(a:fR):rl prog cx c 173 [b.t,a.t]=some (.bool (mH b a)):=im ht Np (b,a) trivial
def sN:List (List Nat)->List Nat->Nat->Int
 | [],_,_=>-1
 |x::c,b,a=>if x=b then(a:Int)else sN c b (a+1)
def Hr:∀(a:List (List Nat)) (b:List Nat) (d:Nat),(0<=sN a b d)=(b∈a):=by
 intro a;induction a with
 |nil=>intro b d;simp[sN]
 |cons g a f=>
  intro b d;rw[sN];by_cases c:g=b
  ·subst c;simp
  ·rw[aq c,f];simp;intro e;exact absurd e.symm c
def Dc:gG:=⟨List (List Nat)×List Nat,λa=>[sl (a.1.map T.str),.str a.2],λa=>a.1.length<=1099511627776,λa=> Z (sN a.1 a.2 0),λa c b=>by
 simp at b;rw[jx dy b.1,b.2]⟩
def aeI:Dc.Ok prog cx 130:=by
 refine fZ [] (iX 131635 [] func130) (λm=>m.1.length+1) (by simp[Dc]) ?_;rintro⟨f,i⟩ hl c l;simp[Dc]at hl l|-;obtain⟨b,d⟩:=l;simp[f130];refine fD f.length J (λe c j=>j=hE/\dF c 0 (sl (f.map T.str))/\dF c 1 (.str i)/\dF c 5 (Z e)/\sN (f.drop e) i e=sN f i 0) ?_ ?_ J (by simp[b,d])
 ·rintro e c j k n ⟨rfl,b,d,g,a⟩;rw[aI k,sN]at a;by_cases h:f[e]=i
  ·rw[ar h]at a;simp[b,d,g,k,h,<-a]
  ·rw[aq h]at a;simp[b,d,g,k,h,n,a]
 ·rintro c j ⟨rfl,b,d,g,a⟩;simp[sN]at a;simp[b,g,<-a]
def Ot{c:fJ}(ht:c.p 130=some Dc)(a:List (List Nat))(b:List Nat)(hl:a.length<=1099511627776):rl prog cx c 130 [sl (a.map T.str),.str b]=some (Z (sN a b 0)):=im ht aeI (a,b) hl
def um:gG:=⟨Unit,λa=>[],λa=>True,λa=>sl (nK.map T.str),λa b c=>rfl⟩
def Kb:um.Ok prog cx 215:=by
 refine fZ [] (iX 1 [] func215) (λb=>1) (by simp[um]) ?_;rintro _ _ c a;simp[um]at a|-;simp[f215,ig];rfl
def N1{a:fJ}(ht:a.p 215=some um):rl prog cx a 215 []=some (sl (nK.map T.str)):=im ht Kb () trivial
def QT:nK.length=22:=rfl
def wn:gG:=⟨List Nat,λa=>[.str a],λa=>True,λa=> .bool (uz a),λa c b=>by simp at b;rw[b]⟩
def Ii:wn.Ok prog cx 171:=by
 refine fZ [(215,um)] (iX 131613 [] func171) (λn=>23) (by simp[wn]) ?_;rintro(g:List Nat) _ b k;simp[wn]at k|-;simp[f171,N1];refine fD nK.length (by rw[QT];omega) (λf b h=>h=hE/\dF b 0 (.str g)/\dF b 3 (sl (nK.map T.str))/\dF b 4 (Z f)/\(g∈nK.drop f↔g∈nK)) ?_ ?_ (by rw[QT];omega) (by simp[k])
 ·rintro f b h j l ⟨rfl,i,c,d,a⟩;have m:=aI j;rw[m]at a;by_cases e:nK[f]=g
  ·simp[i,c,d,j,e,uz];rw[<-a,e];simp
  ·simp[i,c,d,j,e,l];refine⟨λh=>a.1 (List.mem_cons_of_mem _ h),λh=>?_⟩;rcases List.mem_cons.1 (a.2 h)with h|h
   ·exact absurd h.symm e
   ·exact h
 ·rintro b h ⟨rfl,i,c,d,a⟩;simp[c,d,uz];simpa using a
def Es{b:fJ}(ht:b.p 171=some wn)(a:List Nat):rl prog cx b 171 [.str a]=some (.bool (uz a)):=im ht Ii a trivial
def yY:gG:=⟨List Nat,λa=>[.str a],λa=>True,λa=> .bool (uv a),λa c b=>by simp at b;rw[b]⟩
def P7:yY.Ok prog cx 129:=by
 refine fZ [(171,wn),(170,xe),(172,C5)] (iX 4330618893 [] func129) (λv=>13) (by simp[yY]) ?_;rintro(a:List Nat) _ f d;simp[yY]at d|-;cases a with
 |nil=>simp[f129,d,uv]
 |cons b a=>
  have h:¬(a.length:Int)+1<1:=J;by_cases w:a.length+1<=12
  ·have e:¬(12:Int)<(a.length:Int)+1:=J;cases j:uY b with
   |false=>simp[f129,d,h,e,j,CB,uv,LP]
   |true=>
    cases o:uz (b::a)with
    |true=>simp[f129,d,h,e,j,o,CB,Es,uv,LP]
    |false=>
     have q:uv (b::a)=(b::a).all wI:=by simp[uv,o,LP,j];intro _ _;omega
     have⟨m,s⟩:∃m,m=(b::a).all wI:=⟨_,rfl⟩;rw[q,<-s];simp[f129,d,h,e,j,o,CB,Es];refine fD (b::a).length dz (λl f n=>n=hE/\dF f 0 (.str (b::a))/\dF f 3 (Z l)/\((b::a).drop l).all wI=m) ?_ ?_ dz (by rw[s];simp[d])
     ·rintro l f n p u ⟨rfl,g,i,c⟩;rw[aI p,cd]at c;generalize t:(b::a)=r at*
      cases k:wI r[l]with
      |true=>rw[k,aZ]at c;simp[g,i,p,u,Rz,k,c]
      |false=>rw[k,c8]at c;simp[g,i,p,Rz,k,<-c]
     ·rintro f n ⟨rfl,g,i,c⟩;generalize t:(b::a)=r at*
      rw[bO]at c;simp[g,i,<-c]
  ·have e:(12:Int)<(a.length:Int)+1:=J;have q:uv (b::a)=false:=by simp[uv];omega
   simp[f129,d,h,e,q]
def qk{b:fJ}(ht:b.p 129=some yY)(a:List Nat):rl prog cx b 129 [.str a]=some (.bool (uv a)):=im ht P7 a trivial
