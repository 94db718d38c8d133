/- W16e -/
import Derived.Test.YtajpdafdickapaaGreatDoorA12
set_option linter.all false
set_option maxRecDepth 100000
set_option maxHeartbeats 8000000
namespace Go.Proofs.YtajpdafdickapaaGreatDoor
noncomputable section
open Go Go.TI Tryz
attribute [-simp] List.map_take List.map_drop List.map_append fw eY eg Bool.not_or Bool.not_and
attribute [simp] fq eZ
def Li(b:List ej):Prop:=∀a∈b,a.mt.length<=1000000/\a.uN.length<=1000000
def Re(b:Prop)(c:T):Prop:=∃d a:Int,c= .tuple [Z d,Z a]/\(a=0↔b)
def uz(c:Prop)(e b:Int):Re c (.tuple [Z e,Z b])=(b=0↔c):=by
 unfold Re;apply propext;constructor
 ·rintro⟨f,g,d,a⟩;simp at d;rw[d.2];exact a
 ·exact λa=>⟨e,b,rfl,a⟩
def lx{a:dZ}(b:ka a=true):a.cells.length<=12/\a.ei.length<=4/\a.gJ.length<=2/\a.d8.length<=2/\a.iJ.length<=60/\a.dH.length<=4:=by
 unfold ka sX at b;simp only[ax,aI]at b;omega
def FP:oa prog cx 43 (λo:km=>[o.t]) (λo=>Li o.dJ/\o.dJ.length<=1000000) (λo=>Re (qp o.ez o.dJ=true)):=by
 refine jk [(81,yr),(39,qA),(80,mD),(92,um)] (iQ 9223372036871623167 [] func43) (λ_=>1000) (λj b f=>by simp at f;exact km.inj f) ?_;rintro⟨a,c⟩ ⟨M,hl⟩ s L;simp only at M hl;simp at L;simp[f43,L];refine ee (λG=>?_) (λG=>?_)
 ·simp[uz];simp at G;unfold qp;rw[aM J];simp
 simp at G;simp[Ap];refine ee (λz=>?_) (λz=>?_)
 ·simp[uz];simp at z;unfold qp;rw[show ka a=false by simpa using z];simp
 have N:ka a=true:=by simpa using z
 have⟨X,Y,ae,al,an,ap⟩:=lx N;simp[Ee,show a.ei.length<=1000000 by omega,show a.d8.length<=1000000 by omega,show a.dH.length<=1000000 by omega,show a.cells.length<=1000000 by omega];have T:qp a c=HM (qH a) Tr (kh a) [] (jY a) c:=by unfold qp;rw[N,aY J];simp
 rw[T];refine fk c.length J (λe s f=>∃C i,rQ e i/\HM (qH a) Tr (kh a) [] (jY a) c=HM (qH a) Tr (kh a) (c.take e) i (c.drop e)/\hU 2 f/\f.get 0=some (dE 7 0 [km.t ⟨a,c⟩])/\f.get 1=some (dE 7 C [i.t])/\dF s 1 (.ptr 0 0 0 0)/\dF s 4 (.ptr 1 0 0 0)/\dF s 5 (Z e)) ?_ ?_ J ?_
 ·rintro e s f y S ⟨C,i,H,g,h,l,D,r,F,m⟩;have v:=h.ne (b:=0) J;have O:=h.ne (b:=1) J;have n:=M c[e] (aD y);rw[aH y,HM]at g;have V:c.take (e+1)=c.take e++[c[e]]:=aR y;simp[l,D,r,F,m,y,v,O,h.low];generalize c[e]=d at*
  have q:=λ{I:fy} (ht:I.p 80=some mD)=>As ht a i d J (H.up J) n.1 n.2;have E:=λ{I:fy} (ht:I.p 92=some um) (P:List Int) (U:P.length<=1000000)=>Sl ht c e d.dP P J J U;have K:(f.size=0)=False:=by have:=h.sz;simp;omega
  have A:∀j b k,dY ((f.cons j).cons b) (f.size+1) k=(f.cons j).cons k:=λj b k=>Ir _ _ _ _ rfl (by have:=h.low;simp;omega);cases w:qH a i d with
  |false=>
   rw[lK w]at q;rw[w]at g;simp[m,h.hp,A,q,uz,g]
  |true=>
   rw[show jW a i d=(kh a i d,true)by unfold jW;rw[aq w]]at q;cases x:wt (c.take e) d.dP d.mt with
   |false=>
    have:Tr (c.take e) d=false:=by unfold Tr;rw[x];rfl
    rw[this]at g;simp[l,r,m,v,h.hp,A,K,q,E,n.1,uz,g,x]
    |true=>
    cases B:wt (c.take e) d.dP d.uN with
    |false=>
     have:Tr (c.take e) d=false:=by unfold Tr;rw[B];simp
     rw[this]at g;simp[l,r,m,v,h.hp,A,K,q,E,n.1,n.2,uz,g,x,B]
      |true=>
     have:Tr (c.take e) d=true:=by unfold Tr;rw[x,B];rfl
     rw[this,w]at g;have Q:=H.step a d;rw[show jW a i d=(kh a i d,true)by unfold jW;rw[aq w]]at Q;simp[l,D,r,F,m,v,O,A,K,q,E,n.1,n.2,x,B,S];have R:∀j b k u,(dY ((f.cons j).cons b) 1 k).get u=if u=1 then some k else((f.cons j).cons b).get u:=λj b k u=>mr (by simp[h.hp]) dy k u;refine⟨C+1,kh a i d,Q,by rw[V];simpa using g,((h.cons _).cons _).put _ _,?_,?_⟩<;>rw[R]
     ·have W:(0=f.size+1)=False:=dy;simp[l,v]
     ·simp
 ·rintro s f ⟨C,i,H,g,h,l,D,r,F,m⟩;simp[HM]at g;simp[l,r,m,g,uz,h.hp]
 ·exact⟨1,jY a,uV a J,dy,⟨dy,dy,dy⟩,dy⟩
end
noncomputable section
open Go Go.TI
def JS(c:Nat)(d:fH):Prop:=∀b∈d.ei,∀a∈b.eJ,0<=a/\a<c
def JS.rg{b:Nat}{c:fH}(f:JS b c){i:Int}{d:dU->dU}(g:∀a∈c.ei,∀e∈(d a).eJ,0<=e/\e<b):JS b (c.rg i d):=by
 intro a hl;unfold fH.rg at hl;rcases mem_modify hl with j|⟨k,h,rfl⟩
 ·exact f a j
 ·exact g k h
def Em{f:Nat}{k:fH}(b:JS f k)(q:dZ){g:Int}(ht:0<=g/\g<f)(n o r:Int):JS f (fg q k g n o r).1:=by
 have m:∀(d:Int) (c:dU->dU),(∀a,(c a).eJ=a.eJ\/(c a).eJ=mp a.eJ g\/(c a).eJ=a.eJ.filter λj=> !decide (j=g))->JS f (k.rg d c):=λd c h=>b.rg λa hl l i=>by
  rcases h a with e|e|e<;>rw[e]at i
  ·exact b a hl l i
  ·rcases DD i with p|rfl
   ·exact b a hl l p
   ·exact ht
  ·exact b a hl l (List.mem_filter.1 i).1
 exact vJ (P:=λj=>JS f j.1) b b (λ_ _ _=>b) (λd c h=>⟨m d c h,λ_ _=>m d c h⟩) (λ_=>b) (λ_ _=>b) (λ_=>b)
def M6{b:dZ}{e:Nat}(j:b.dH.length<=e):∀(c:List ej) (a:ew),runs b a c=true->JS e a.fj->JS e (pJ b a c).fj:=by
 intro c;induction c with
 |nil=>intro a _ f;exact f
 |cons d c h=>
  intro a hr f;have hr:(qH b a d&&runs b (kh b a d) c)=true:=hr;rw[ax]at hr;have g:=ue a d hr.1;show JS e (pJ b (jW b a d).1 c).fj;rw[g];have⟨_,i,_⟩:=pX hr.1;have:=eQ.1 i;exact h _ hr.2 (Em f b J _ _ _)
def JS.len{b:Nat}{c:fH}(d:JS b c)(e:c.BS):∀a∈c.ei,a.eJ.length<=b:=λa hl=>by
 have:=M4 a.eJ 0 b (e a hl) (d a hl);omega
def wi(a:Nat)(b:dZ):JS a (jY b).fj:=by
 intro c hl;unfold jY ly at hl;simp only[List.mem_map]at hl;obtain⟨_,_,rfl⟩:=hl;simp
end
noncomputable section
open Go Go.TI Tryz
attribute [-simp] List.map_take List.map_drop List.map_append fw eY eg Bool.not_or Bool.not_and
attribute [simp] fq eZ
section
attribute [-simp] size_cons
def JO{c:dZ}{d:ew}{b:List ej}{a:Nat}(e:a<b.length):pJ c d (b.drop a)=pJ c (jW c d b[a]).1 (b.drop (a+1)):=by
 rw[aH e];rfl
def uv:fP:=⟨km×Nat,λa=>[a.1.t,Z a.2],λa=>ka a.1.ez=true/\Li a.1.dJ/\a.2<=a.1.dJ.length/\a.1.dJ.length<=1000,λa=>(pJ a.1.ez (jY a.1.ez) (a.1.dJ.take a.2)).t,λa c b=>by
 simp at b;rw[km.inj b.1,show a.2=c.2 by omega]⟩
structure kl(w:dR):Prop where
 ok:yn w
 wb:ka w.ez=true
 sm:rQ 1000 w.jG
 ev:Li w.dJ
 rdt:JS 4 w.jG.fj
def mf:fP:=⟨dR×Int,λa=>[a.1.t,Z a.2],λa=>kl a.1,λa=>(pJ a.1.ez a.1.jG (a.1.dJ.take a.2.toNat)).t,λa c b=>by
 simp at b;rw[dR.inj b.1,b.2]⟩
def Bi{c:fy}(ht:c.p 93=some mf)(e:mf.Ok prog cx 93)(a:dR)(b:Int)(d:kl a):rl prog cx c 93 [a.t,Z b]=some (pJ a.ez a.jG (a.dJ.take b.toNat)).t:=gu ht e (a,b) d
def Og:uv.Ok prog cx 44:=by
 refine fM [(39,qA),(80,mD)] (iQ 4215 [] func44) (λ_=>2000) (by simp[uv]) ?_;rintro⟨⟨a,i⟩,k⟩ ⟨B,y,H,hl⟩ g x;simp only at B y H hl;simp[uv]at x|-;obtain⟨E,j⟩:=x;have⟨P,Q,R,S,T,U⟩:=lx B;simp[f44,E,Ee,show a.ei.length<=1000000 by omega,show a.d8.length<=1000000 by omega,show a.dH.length<=1000000 by omega,show a.cells.length<=1000000 by omega];refine fk k J (λe g d=>∃l f,rQ e f/\pJ a f ((i.take k).drop e)=pJ a (jY a) (i.take k)/\hU 3 d/\d.get 0=some (dE 7 0 [km.t ⟨a,i⟩])/\d.get 1=some (dE 7 0 [.agg [dD,Z 0,dD,dD,dD,dD,dD]])/\d.get 2=some (dE 7 l [f.t])/\dF g 1 (Z k)/\dF g 2 (.ptr 0 0 0 0)/\dF g 4 (.ptr 1 0 0 0)/\dF g 5 (.ptr 2 0 0 0)/\dF g 6 (Z e)) ?_ ?_ J ?_
 ·rintro e g d G F ⟨l,f,u,h,c,m,n,o,j,w,q,r,s⟩;have M:=c.ne (b:=0) J;have N:=c.ne (b:=1) J;have O:=c.ne (b:=2) J;have A:e<i.length:=J;have z:=y i[e] (aD A);rw[JO dz,List.getElem_take]at h;have C:=λ{I:fy} (ht:I.p 80=some mD)=>As ht a f i[e] J (u.up J) z.1 z.2;simp[m,o,j,w,q,r,s,A,C,G,F];have L:2<d.size:=by have:=c.sz;omega
  refine⟨l+1,(jW a f i[e]).1,u.step a _,h,c.put _ _,?_,?_,?_⟩<;>rw[mr c.hp L]<;>simp[m,n]
 ·rintro g d ⟨l,f,u,h,c,m,n,o,j,w,q,r,s⟩;rw[List.drop_eq_nil_of_le dz]at h;have K:1<d.size:=by have:=c.sz;omega
  have D:∀v,(dY d 1 v).get 1=some v:=λv=>by rw[mr c.hp K];simp
  have h:f=_:=h;rw[<-h];simp[j,q,r,s,o,n,D,c.hp]
 ·exact⟨1,jY a,uV a J,dy,by exact⟨dy,dy,dy⟩,by simp[j]⟩
def yA:mf.Ok prog cx 93:=by
 refine fM [(80,mD)] (iQ 262263 [] func93) (λ_=>2000) (by simp[mf]) ?_;rintro⟨f,l⟩ k h C;replace k:kl f:=k;simp[mf]at C|-;obtain⟨I,j⟩:=C;have⟨O,P,Q,R,S,T⟩:=lx k.wb;have hl:=k.ok.len;have G:=k.sm;have E:=k.ev;obtain⟨f,M,y,e⟩:=f;simp[f93,I];simp only at O P Q R S T hl G E;generalize X:min l.toNat e.length=x;refine fk x J (λd h c=>∃v g,rQ (1000+d) g/\pJ f g ((e.take l.toNat).drop d)=pJ f y (e.take l.toNat)/\hU 3 c/\c.get 0=some (dE 15 0 [dR.t ⟨f,M,y,e⟩])/\c.get 1=some (dE 7 0 [.agg [dD,Z 0,dD,dD,dD,dD,dD]])/\c.get 2=some (dE 7 v [g.t])/\dF h 1 (Z l)/\dF h 2 (.ptr 0 0 0 0)/\dF h 4 (.ptr 1 0 0 0)/\dF h 5 (.ptr 2 0 0 0)/\dF h 6 (Z d)) ?_ ?_ J ?_
 ·rintro d h c W K ⟨v,g,z,i,a,m,n,o,j,w,q,r,s⟩;have Y:=a.ne (b:=0) J;have ae:=a.ne (b:=1) J;have al:=a.ne (b:=2) J;have F:d<e.length:=J;have u:(d:Int)<l:=J;have D:=E e[d] (aD F);rw[JO dz,List.getElem_take]at i;have H:=λ{N:fy} (ht:N.p 80=some mD)=>As ht f g e[d] J (z.up J) D.1 D.2;simp[m,o,j,w,q,r,s,F,H,u,K];have V:2<c.size:=by have:=a.sz;omega
  refine⟨v+1,(jW f g e[d]).1,(z.step f _).up J,i,a.put _ _,?_,?_,?_⟩<;>rw[mr a.hp V]<;>simp[m,n]
 ·rintro h c ⟨v,g,z,i,a,m,n,o,j,w,q,r,s⟩;rw[List.drop_eq_nil_of_le dz]at i;have U:1<c.size:=by have:=a.sz;omega
  have B:∀A,(dY c 1 A).get 1=some A:=λA=>by rw[mr a.hp U];simp
  have i:g=_:=i;rw[<-i];by_cases u:(x:Int)<l
  ·have L:¬x<e.length:=J;simp[j,w,q,r,s,m,o,n,u,L,B,a.hp]
  ·simp[j,q,r,s,o,n,u,B,a.hp]
 ·exact⟨1,y,G,dy,by exact⟨dy,dy,dy⟩,by simp[j]⟩
def Fw:fP:=⟨dR×Int×Int,λa=>[a.1.t,Z a.2.1,Z a.2.2],λa=>a.1.dJ.length<=1000000,λa=> Z (vf a.2.1 a.1.dJ 0 a.2.2),λa c b=>by simp at b;rw[show a=c from aC (dR.inj b.1) (aC b.2.1 b.2.2)]⟩
def XQ:Fw.Ok prog cx 94:=by
 refine fM [] (iQ 20975823 [] func94) (λv=>v.1.dJ.length+5) (by simp[Fw]) ?_;rintro⟨m,p,u⟩ hl c q;simp[Fw]at hl q|-;obtain⟨w,d,e⟩:=q;simp[f94,w];refine fk m.dJ.length J (λk c j=>∃l,hU 1 j/\j.get 0=some (dE 15 0 [m.t])/\dF c 1 (Z p)/\dF c 2 (Z l)/\dF c 3 (.ptr 0 0 0 0)/\dF c 7 (Z k)/\vf p (m.dJ.drop k) k l=vf p m.dJ 0 u) ?_ ?_ J ⟨u,⟨dy,dy,dy⟩,by simp[d,e]⟩
 ·rintro k c j s r ⟨l,g,h,d,e,i,f,a⟩;have x:=g.ne (b:=0) J;rw[aH s]at a;simp only[vf]at a;simp[h,d,i,f,s];refine ee (λn=>?_) (λn=>?_)
  ·rw[aq (by simpa using n)]at a;simp[e];refine ee (λo=>?_) (λo=>?_)
   ·rw[aq (by simpa using o)]at a;simp[f,g.hp,<-a]
   ·rw[ao (by simpa using o)]at a;simp[h,d,e,i,f,r,qX,g,a]
  ·rw[ao (by simpa using n)]at a;simp[h,d,e,i,f,r,g,a]
 ·rintro c j ⟨l,g,h,d,e,i,f,a⟩;rw[bO]at a;simp only[vf]at a;simp[h,i,f,g.hp,<-a]
def adl{d:fy}(ht:d.p 94=some Fw)(a:dR)(c b:Int)(hl:a.dJ.length<=1000000):rl prog cx d 94 [a.t,Z c,Z b]=some (Z (vf c a.dJ 0 b)):=gu ht XQ (a,c,b) hl
def m9:fP:=⟨dR×eK×Int,λa=>[a.1.t,a.2.1.t,Z a.2.2],λa=>a.1.dJ.length<=1000000/\a.2.1.order.length<=1000000,λa=> Z (jl a.1 a.2.1 a.2.2),λa c b=>by simp at b;rw[show a=c from aC (dR.inj b.1) (aC (eK.inj b.2.1) b.2.2)]⟩
def QG:m9.Ok prog cx 12:=by
 refine fM [(31,BZ)] (iQ 536875231 [] func12) (λv=>v.1.dJ.length+5) (by simp[m9]) ?_;rintro⟨l,i,m⟩ ⟨hl,y⟩ c p;simp only at hl y;simp[m9]at p|-;obtain⟨w,x,b⟩:=p;simp[f12,w,x];refine fk l.dJ.length J (λf c j=>hU 2 j/\j.get 0=some (dE 15 0 [l.t])/\j.get 1=some (dE 9 0 [i.t])/\dF c 2 (Z m)/\dF c 3 (.ptr 0 0 0 0)/\dF c 4 (.ptr 1 0 0 0)/\dF c 7 (Z f)/\uA m i.order (l.dJ.drop f) f=jl l i m) ?_ ?_ J ⟨⟨dy,dy,dy⟩,dy,dy,by simp[b,jl]⟩
 ·rintro f c j q o ⟨g,d,h,b,e,k,n,a⟩;rw[aH q]at a;simp only[uA]at a;cases s:decide (l.dJ[f].dP=m)<;>cases u:decide ((f:Int)∈i.order)
  all_goals
   have r:=s;have p2:=u;simp only[aI,bj]at r p2;simp only[r,p2]at a;simp at a;simp[d,h,b,e,k,n,q,s,u,Lx,show i.order.length<=1099511627776 by omega]
  ·simp[d,h,b,e,k,o,g,a]
  ·simp[d,h,b,e,k,o,g,a]
  ·simp[g.hp,<-a]
  ·simp[d,h,b,e,k,o,g,a]
 ·rintro c j ⟨g,d,h,b,e,k,n,a⟩;rw[bO]at a;simp only[uA]at a;simp[d,e,n,g.hp,<-a]
def At{d:fy}(ht:d.p 12=some m9)(b:dR)(a:eK)(c:Int)(hl:b.dJ.length<=1000000)(e:a.order.length<=1000000):rl prog cx d 12 [b.t,a.t,Z c]=some (Z (jl b a c)):=gu ht QG (b,a,c) ⟨hl,e⟩
def Rm(e:Int)(d:List Int):∀(b:List ej) (a:Nat),uA e d b a<(a+b.length:Nat):=by
 intro b;induction b with
 |nil=>intro a;simp[uA];omega
 |cons f b c=>
  intro a;have g:=c (a+1);simp only[uA,aT];split<;>omega
def uB{a:dR}{b:eK}{c:Int}(d:¬jl a b c<0):iP (jl a b c) a.dJ.length=true:=by
 have:=Rm c b.order a.dJ 0;rw[eQ];unfold jl at*;omega
def oO:fP:=⟨dR×eK×Int×List Int,λa=>[a.1.t,a.2.1.t,Z a.2.2.1,sl (a.2.2.2.map (T.int .i64))],λa=>a.1.dJ.length<=1000000/\a.2.2.2.length<=1000000,λa=> .bool (mZ a.1 a.2.1 a.2.2.1 a.2.2.2),λa c b=>by simp at b;rw[show a=c from aC (dR.inj b.1) (aC (eK.inj b.2.1) (aC b.2.2.1 (jz dy b.2.2.2)))]⟩
def KJ:oO.Ok prog cx 48:=by
 refine fM [(94,Fw)] (iQ 2361183242534469502783 [] func48) (λL=>L.2.2.2.length+5) (by simp[oO]) ?_;rintro⟨d,b,c,l⟩ ⟨hl,O⟩ j G;simp only at hl O;simp[oO]at G|-;obtain⟨B,C,e,f⟩:=G;cases w:iP c d.jG.count.length with
 |false=>
  have z:mZ d b c l=decide (l=[]):=by unfold mZ;rw[nQ w]
  have U:=pY w;have S:decide (l.length=0)=decide (l=[]):=by cases l<;>simp
  cases E:decide (c<0)
  ·have Q:decide ((d.jG.count.length:Int)<=c)=true:=by simp at E;simp;omega
   simp[f48,B,C,e,f,E,Q,z]
  ·simp[f48,B,C,e,f,E,z]
 |true=>
  have⟨first,v,N⟩:=iD w;have y:=em (eQ.1 w).1;have z:mZ d b c l=l.all (yH d b.fixed c first):=by unfold mZ;rw[N]
  have⟨V,W⟩:=eQ.1 w;simp[f48,B,C,e,show decide (c<0)=false by simp;omega,show decide ((d.jG.count.length:Int)<=c)=false by simp;omega,z];refine fk l.length J (λi j s=>hU 2 s/\s.get 0=some (dE 15 0 [d.t])/\s.get 1=some (dE 9 0 [b.t])/\dF j 2 (Z c)/\dF j 3 (sl (l.map (T.int .i64)))/\dF j 4 (.ptr 0 0 0 0)/\dF j 5 (.ptr 1 0 0 0)/\dF j 9 (Z i)/\(l.drop i).all (yH d b.fixed c first)=l.all (yH d b.fixed c first)) ?_ ?_ J ⟨⟨dy,dy,dy⟩,dy,dy,by simp[e,f]⟩
  ·rintro i j s o H ⟨n,k,r,e,f,m,u,h,a⟩;rw[aH o,bZ]at a;simp[k,e,f,m,h,o,y,v];refine ee (λD=>?_) (λD=>?_)
   ·have:yH d b.fixed c first l[i]=true:=by unfold yH;rw[D];rfl
    rw[this,aU]at a;simp[k,r,e,f,m,u,h,H,n,a]
   have P:yH d b.fixed c first l[i]=vP b.fixed (vf c d.dJ 0 (IntKind.i64.wrap (l[i]-first))):=by unfold yH;rw[D];rfl
   rw[P]at a;have A:=λ{R:fy} (ht:R.p 94=some Fw)=>adl ht d c (IntKind.i64.wrap (l[i]-first)) hl;generalize vf c d.dJ 0 (IntKind.i64.wrap (l[i]-first))=g at*
   cases q:decide (g<0)with
   |true=>
    have p3:g<0:=by simpa using q
    have:vP b.fixed g=false:=by unfold vP uR;rw[ao J];rfl
    rw[this]at a;simp at a;simp[k,e,f,m,h,o,y,v,qX,A,q,n.hp,a]
   |false=>
   have p3:¬g<0:=by simpa using q
   cases x:decide ((b.fixed.length:Int)<=g)with
   |true=>
    have p4:(b.fixed.length:Int)<=g:=by simpa using x
    have:vP b.fixed g=false:=by unfold vP;rw[nQ (by unfold iP;simp;omega)];rfl
    rw[this]at a;simp at a;simp[k,r,e,f,m,u,h,o,y,v,qX,A,q,x,n.hp,a]
   |false=>
    have p4:¬(b.fixed.length:Int)<=g:=by simpa using x
    have⟨F,I,M⟩:=iD (l:=b.fixed) (i:=g) (by rw[eQ];omega);have:vP b.fixed g=F:=by unfold vP;rw[M];rfl
    rw[this]at a;have K:=em (show 0<=g by omega);cases F
    ·simp at a;simp[k,r,e,f,m,u,h,o,y,v,qX,A,q,x,K,I,n.hp,a]
    ·simp only[aU]at a;simp[k,r,e,f,m,u,h,o,y,v,qX,A,q,x,K,I,H,n,a]
  ·rintro j s ⟨n,k,r,e,f,m,u,h,a⟩;rw[bO]at a;simp at a;simp[f,h,n.hp];simpa using a
def Gh{e:fy}(ht:e.p 48=some oO)(b:dR)(c:eK)(d:Int)(a:List Int)(hl:b.dJ.length<=1000000)(f:a.length<=1000000):rl prog cx e 48 [b.t,c.t,Z d,sl (a.map (T.int .i64))]=some (.bool (mZ b c d a)):=gu ht KJ (b,c,d,a) ⟨hl,f⟩
end
def afc(c:T):Prop:=∃(a:List dR) (b:Int),c= .tuple [sl (a.map dR.t),Z b]/\∀d∈a,kl d
def SF{d:fy}(ht:d.p 44=some uv)(b:dZ)(a:List ej)(c:Nat)(e:ka b=true)(f:Li a)(g:c<=a.length)(h:a.length<=1000):rl prog cx d 44 [km.t ⟨b,a⟩,Z c]=some (pJ b (jY b) (a.take c)).t:=gu ht Og (⟨b,a⟩,c) ⟨e,f,g,h⟩
def TE{w:dZ}{b:List ej}(g:qp w b=true)(d:ka w=true)(i:Li b){e:Nat}(j:e<=16)(a:Nat):kl (xU w b e a):=by
 have⟨c,h,l⟩:=Ao g;have⟨m,n,o,p,q,r⟩:=lx d;refine⟨Pf c h j a,d,?_,λf k=>i f (bI (bG k)),M6 J _ _ (AI c a) (wi 4 w)⟩;have:=(uV w J).pJ (w:=w) (b.take a);exact this.up dz 
def FK:oa prog cx 17 (λh:km×Nat=>[h.1.t,Z h.2]) (λh=>Li h.1.dJ/\h.1.dJ.length<=1000000/\1<=h.2/\h.2<=16) (λ_=>afc):=by
 refine jk [(43,FP.jA),(44,uv)] (iQ 138478519 [(10,[(2,6),(6,8),(6,14),(6,17)])] func17) (λ_=>2000) (λh b g=>by simp at g;exact aC (km.inj g.1) (by have:=g.2;omega)) ?_;rintro⟨⟨e,c⟩,a⟩ ⟨w,hl,U,I⟩ l H;simp only at w hl U I;simp at H;obtain⟨O,k⟩:=H;obtain⟨_,⟨x,y,rfl,Y⟩,R⟩:=FP.use ⟨e,c⟩ ⟨w,hl⟩;simp[f17,O,R];refine ee (λK=>?_) (λK=>?_)
 ·simp;exact⟨[],12,rfl,dy⟩
 have q:qp e c=true:=Y.1 (by simpa using K);have L:ka e=true:=by
  unfold qp at q;simp only[ax]at q;exact q.1.2
 have a7:c.length<=400:=(Ao q).2.2;simp[k,show¬(a:Int)<1 by omega,show¬(16:Int)<a by omega];generalize D:(c.length+(a-1))/a=o;have a6:o<=c.length+16:=by rw[<-D];exact aO (Nat.div_le_self _ _) J
 refine fk o J (λm l g=>∃s d,d=m*a/\dS s≠some 0/\Gr g s 15 (((List.range m).map λi=>xU e c a (i*a)).map dR.t)/\hU 1 g/\g.get 0=some (dE 7 0 [km.t ⟨e,c⟩])/\dF l 1 (Z a)/\dF l 2 (.ptr 0 0 0 0)/\dF l 8 s/\dF l 9 (Z (d:Int))) ?_ ?_ J ?_
 ·rintro m l g T _ ⟨s,d,r,E,A,n,u,k,v,B,C⟩;have bi:=n.ne (b:=0) J;have V:d<c.length:=by
   rw[r];have k:(m+1)*a<=o*a:=aV a T;have v:o*a<=c.length+(a-1):=by rw[<-D];exact Nat.div_mul_le_self _ _
   rw[ci]at k;omega
  have⟨av,aN,N,x⟩:=A.lP (cx:=cx) (f:=dR.t) ⟨n.hp,n.low,aw _⟩ YH rfl YI rfl dy (λ_=>rfl) (xU e c a d) dz;have Q:=λ{ap:fy} (ht:ap.p 44=some uv)=>SF ht e c d L w J J;have P:binop .add (Z (d:Int)) (Z (a:Int))=some (Z ((d:Int)+a)):=iz J J;have⟨j,ae,a8⟩:∃j:Nat,min ((d:Int)+a) (c.length:Int)=j/\j=min (d+a) c.length:=⟨min (d+a) c.length,J,rfl⟩;have al:d<=j:=J;have an:j<=c.length:=J;have W:(c.drop d).take (j-d)=(c.drop d).take a:=by
   rw[List.take_eq_take_iff];simp;omega
  have G:=N;unfold xU at G;simp[u,k,v,B,C,Q,G,V,P,ae,al,an,W];have hr:((List.range m).map λi=>xU e c a (i*a))++[xU e c a d]=(List.range (m+1)).map λi=>xU e c a (i*a):=by rw[List.range_succ,List.map_append,r];rfl
  rw[hr]at x;obtain⟨M,aA,aE,F⟩:=x;have z:=n.sz;rw[cO]at M;exact⟨av,λj=>(aE 0 j).elim E J,M,⟨F.hp,F.low,by have:=F.sz;omega⟩,(aA 0 J E).trans u,rfl,by rw[r];simp[Int.add_mul]⟩
 ·rintro l g ⟨s,d,r,E,A,n,u,k,v,B,C⟩;have S:¬d<c.length:=by
   rw[r,<-D];have:=Nat.div_add_mod (c.length+(a-1)) a;have aX:=Nat.mod_lt (c.length+(a-1)) (show a>0 by omega);rw[Nat.mul_comm]at this;omega
  simp[u,v,B,C,S];refine⟨.tuple [sl (((List.range o).map λi=>xU e c a (i*a)).map dR.t),Z 0],⟨_,0,rfl,λx X=>?_⟩,n.hp,by rw[A.qP dy];rfl⟩;obtain⟨i,_,rfl⟩:=List.mem_map.1 X;exact TE q L w I _
 ·exact⟨dD,0,dy,dy,Gr.nil _ _,by exact⟨dy,dy,dy⟩,by simp[k]⟩
end
noncomputable section
open Go Go.TI Tryz
section
attribute [-simp] List.map_take List.map_drop List.map_append
def FA:fP:=⟨Int×Nat,λa=>[Z a.1,Z a.2],λa=>True,λa=> .bool (iP a.1 a.2),λa c b=>by simp at b;rw[b.1,show a.2=c.2 by omega]⟩
def XU:FA.Ok prog cx 131:=by
 refine fM [] (iQ 19 [] func131) (λf=>1) (by simp[FA]) ?_;rintro⟨e,g⟩ _ h a;simp[FA]at a|-;obtain⟨b,c⟩:=a;by_cases d:0<=e<;>simp[f131,b,c,d,iP]
def Sx{c:fy}(ht:c.p 131=some FA)(a:Int)(b:Nat):rl prog cx c 131 [Z a,Z b]=some (.bool (iP a b)):=gu ht XU (a,b) trivial
def HS(c:dR)(b:Int):Bool:=match uR c.jG.count b with|some a=>decide (1<=a)|none=>false
def wC:fP:=⟨dR×Int,λa=>[a.1.t,Z a.2],λa=>True,λa=> .bool (HS a.1 a.2),λa c b=>by simp at b;rw[dR.inj b.1,b.2]⟩
def Oc:wC.Ok prog cx 132:=by
 refine fM [(131,FA)] (iQ 23 [] func132) (λi=>1) (by simp[wC]) ?_;rintro⟨h,g⟩ _ k d;simp[wC]at d|-;obtain⟨b,c⟩:=d;cases a:iP g h.jG.count.length with
 |false=>simp[f132,b,c,Sx,a,HS,nQ a]
 |true=>
  have⟨j,e,f⟩:=iD a;simp[f132,b,c,Sx,a,HS,e,f,em (eQ.1 a).1]
def w7{c:fy}(ht:c.p 132=some wC)(b:dR)(a:Int):rl prog cx c 132 [b.t,Z a]=some (.bool (HS b a)):=gu ht Oc (b,a) trivial
@[simp]theorem SI (a:List T):dS (sl a)=none:=by cases a<;>rfl
def sv(a b:aa iX):Bool:=match a,b with|none,_=>true|some _,none=>false|some a,some b=>decide (a.ver=b.ver)
@[simp]def adT (a b:iX):sv (some a) (some b)=decide (a.ver=b.ver):=id rfl
def kW(b c:H)(a:Nat):fh b c a=sv (b.get a) (c.get a):=by
 unfold fh sv;cases b.get a with
 |none=>rfl
 |some d=>cases c.get a<;>simp
def Fy:fP:=⟨Int×Nat,λa=>[Z a.1,Z a.2],λa=>True,λa=> .bool (iP a.1 a.2),λa c b=>by simp at b;rw[b.1,show a.2=c.2 by omega]⟩
def XT:Fy.Ok prog cx 63:=by
 refine fM [] (iQ 19 [] func63) (λf=>1) (by simp[Fy]) ?_;rintro⟨e,g⟩ _ h a;simp[Fy]at a|-;obtain⟨b,c⟩:=a;by_cases d:0<=e<;>simp[f63,b,c,d,iP]
def WJ{c:fy}(ht:c.p 63=some Fy)(a:Int)(b:Nat):rl prog cx c 63 [Z a,Z b]=some (.bool (iP a b)):=gu ht XT (a,b) trivial
def C5:fP:=⟨ej,λa=>[a.t],λa=>True,λa=> .bool (m6 a),λa c b=>by simp at b;rw[ej.inj b]⟩
def Um:C5.Ok prog cx 20:=by
 refine fM [] (iQ 7 [] func20) (λd=>1) (by simp[C5]) ?_;rintro(b:ej) _ e a;simp[C5]at a|-;by_cases c:b.kind=3<;>simp[f20,a,c,m6]
def HP{b:fy}(ht:b.p 20=some C5)(a:ej):rl prog cx b 20 [a.t]=some (.bool (m6 a)):=gu ht Um a trivial
def XZ:C5.Ok prog cx 168:=by
 refine fM [] (iQ 7 [] func168) (λd=>1) (by simp[C5]) ?_;rintro(b:ej) _ e a;simp[C5]at a|-;by_cases c:b.kind=3<;>simp[f168,a,c,m6]
def SH{b:fy}(ht:b.p 168=some C5)(a:ej):rl prog cx b 168 [a.t]=some (.bool (m6 a)):=gu ht XZ a trivial
def zf:fP:=⟨Int,λa=>[Z a],λa=>True,λa=> .bool (qW a),λa c b=>by simp at b;rw[b]⟩
def Qq:zf.Ok prog cx 157:=by
 refine fM [] (iQ 29 [] func157) (λh=>1) (by simp[zf]) ?_;rintro(b:Int) _ i a;simp[zf]at a|-;by_cases c:b=6
 ·simp[f157,a,c,qW]
 by_cases d:b=8
 ·simp[f157,a,d,qW]
 by_cases e:b=10
 ·simp[f157,a,e,qW]
 by_cases f:b=17
 ·simp[f157,a,f,qW]
 by_cases g:b=21<;>simp[f157,a,c,d,e,f,g,qW]
def U5{b:fy}(ht:b.p 157=some zf)(a:Int):rl prog cx b 157 [Z a]=some (.bool (qW a)):=gu ht Qq a trivial
def AN:fP:=⟨ej×ej,λa=>[a.1.t,a.2.t],λa=>True,λa=> .bool (kH a.1 a.2),λa c b=>by simp at b;rw[ej.inj b.1,ej.inj b.2]⟩
def N8:AN.Ok prog cx 111:=by
 refine fM [(20,C5)] (iQ 31 [] func111) (λa=>1) (by simp[AN]) ?_;rintro⟨a,e⟩ _ j f;simp[AN]at f|-;obtain⟨b,c⟩:=f;cases d:m6 a with
 |false=>simp[f111,b,c,HP,d,kH]
 |true=>
  cases g:m6 e with
  |false=>simp[f111,b,c,HP,d,g,kH]
  |true=>
   cases h:decide (a.obj=e.obj)<;>cases i:decide (a.kind=4)<;>simp[f111,b,c,HP,d,g,h,i,kH]
def Eg{c:fy}(ht:c.p 111=some AN)(a b:ej):rl prog cx c 111 [a.t,b.t]=some (.bool (kH a b)):=gu ht N8 (a,b) trivial
def tg:fP:=⟨fU×Int×Int,λa=>[a.1.t,Z a.2.1,Z a.2.2],λa=>iP a.2.1 a.1.w.dJ.length=true/\iP a.2.2 a.1.w.dJ.length=true,λa=> .bool (kH (lq a.1.w.dJ a.2.1) (lq a.1.w.dJ a.2.2)),λa c b=>by simp at b;rw[fU.inj b.1,b.2.1,b.2.2]⟩
def Q6:tg.Ok prog cx 120:=by
 refine fM [(168,C5)] (iQ 463 [(1,[(8,14),(10,14),(11,14)])] func120) (λb=>1) (by simp[tg]) ?_;rintro⟨m,p,q⟩ c t a;simp[tg]at c a|-;obtain⟨e,f,g⟩:=a;have⟨b,a,n⟩:=iD c.1;have⟨d,h,o⟩:=iD c.2;have i:=em (eQ.1 c.1).1;have j:=em (eQ.1 c.2).1;rw[show lq m.w.dJ p=b by simp[lq,n],show lq m.w.dJ q=d by simp[lq,o]];cases k:m6 b with
 |false=>simp[f120,e,f,g,i,j,a,h,SH,kW,k,kH]
 |true=>
  cases l:m6 d with
  |false=>simp[f120,e,f,g,i,j,a,h,SH,kW,k,l,kH]
  |true=>
   cases r:decide (b.obj=d.obj)<;>cases s:decide (b.kind=4)<;>simp[f120,e,f,g,i,j,a,h,SH,kW,k,l,r,s,kH]
def Cx{d:fy}(ht:d.p 120=some tg)(a:fU)(b c:Int)(e:iP b a.w.dJ.length=true)(f:iP c a.w.dJ.length=true):rl prog cx d 120 [a.t,Z b,Z c]=some (.bool (kH (lq a.w.dJ b) (lq a.w.dJ c))):=gu ht Q6 (a,b,c) ⟨e,f⟩
end
def AX{d:im->Bool}{b c:im}(a:c∈kr d b):c=b/\d b=true:=by
 unfold kr at a;split at a
 ·simp at a;exact⟨a,by assumption⟩
 ·simp at a
def Oo{e:GX}{c:im}(h:c∈e.mO):
 (∃a b,c=gR a b/\e.vR c=true)\/(∃a f,c=gC f/\f∈e.Bf a)\/(∃a b,c=gL a b/\e.vR c=true)\/(∃a b g i,c=gA a b g i/\e.vR c=true):=by
 unfold GX.mO at h;simp only[List.mem_append]at h;rcases h with((h|h)|h)|h
 ·rw[cD]at h;obtain⟨a,_,h⟩:=h;rw[cD]at h;obtain⟨b,_,h⟩:=h;obtain⟨rfl,d⟩:=AX h;exact .inl ⟨a,b,rfl,d⟩
 ·rw[cD]at h;obtain⟨a,_,h⟩:=h;rw[List.mem_map]at h;obtain⟨f,j,rfl⟩:=h;exact .inr (.inl ⟨a,f,rfl,j⟩)
 ·rw[cD]at h;obtain⟨a,_,h⟩:=h;rw[cD]at h;obtain⟨b,_,h⟩:=h;obtain⟨rfl,d⟩:=AX h;exact .inr (.inr (.inl ⟨a,b,rfl,d⟩))
 ·rw[cD]at h;obtain⟨a,_,h⟩:=h;rw[cD]at h;obtain⟨b,_,h⟩:=h;split at h
  ·rw[cD]at h;obtain⟨g,_,h⟩:=h;rw[cD]at h;obtain⟨i,_,h⟩:=h;obtain⟨rfl,d⟩:=AX h;exact .inr (.inr (.inr ⟨a,b,g,i,rfl,d⟩))
  ·simp at h
def GX.KZ{e:GX}{d:im}(f:d∈e.mO):e.vR d=true:=by
 rcases Oo f with⟨b,c,rfl,a⟩|⟨b,i,rfl,a⟩|⟨b,c,rfl,a⟩|⟨b,c,g,h,rfl,a⟩
 ·exact a
 ·exact(MC _ _ _ a).1
 ·exact a
 ·exact a
def RM{g:Nat}{h:List Int->Bool}:∀(d:List Int) (c:Nat) (a:List Int),d.length<=c->a≠ []->(∀b∈d,(a.getD 0 0)<b/\b<g/\0<=a.getD 0 0)->h (a++d)=true->a++d∈BP g h (λ_ _=>true) c a:=by
 intro d;induction d with
 |nil=>
  intro c a _ _ _ e;rw[bP]at e|-;cases c with
  |zero=>unfold BP;rw[aq e];simp
  |succ c=>unfold BP;rw[aq e];simp
 |cons b d n=>
  intro c a f l hr e;cases c with
  |zero=>simp at f
  |succ c=>
   unfold BP;rw[List.mem_append];right;have⟨o,p,q⟩:=hr b dy;have k:((b.toNat:Nat):Int)=b:=J;refine List.mem_flatMap.2 ⟨b.toNat,?_,?_⟩
   ·unfold jF;rw[List.mem_range'_1];omega
   ·rw[aq rfl,k];have i:(a++[b]).getD 0 0=a.getD 0 0:=by
     have:=List.length_pos_iff.2 l;simp only[List.getD,cv this]
    have:=n c (a++[b]) (by simp at f;omega) dy (λm j=>by rw[i];exact hr m (by simp[j])) (by simpa using e);simpa using this
def GX.RP(c:GX)(e:Nat):c.Bf e=BP c.ev.length (λa=>c.vR (gC a)) (λ_ _=>true) 3 [(e:Int)]:=by
 unfold GX.Bf;have g:=UM (n:=c.ev.length) (ok:=λa=>c.vR (gC a)) (go:=λa b=>decide (a=[])||(!decide (b∈a)&&c.nW b (pO a))) (λa k j f=>by
  by_cases d:a=[]
  ·simp[d]
  ·rw[GX.dx]at f;have⟨h,i⟩:=GX.RO d f;simp[h,i]) 3 [(e:Int)]
 rw[YE (go:=λa b=> !decide (b∈a)&&c.nW b (pO a)) (go':=λa b=>decide (a=[])||(!decide (b∈a)&&c.nW b (pO a))) (λa j d=>by simp[d]) 3 _ dy,g]
def Cm{d:GX}{b:Int}(a:d.yc b=true):∃c:Nat,b=c/\c<d.n:=by
 unfold GX.yc at a;rw[eQ]at a;exact⟨b.toNat,J,a.2⟩
def GX.On{v:GX}{n:im}(a:v.vR n=true):n∈v.mO:=by
 obtain⟨k,g,h,i,j,w⟩:=n;have p:=a;unfold GX.vR at a;unfold GX.mO;simp only[List.mem_append];simp only at a;split at a
 ·rename_i e;subst e;unfold GX.dead at a;simp only[ax,aI]at a;obtain⟨⟨⟨⟨rfl,rfl⟩,rfl⟩,rfl⟩,a⟩:=a;left;left;right;have r:=a;unfold GX.Ga at a;simp only[ax,aI,bW,cu]at a;obtain⟨⟨⟨z,A⟩,s⟩,B⟩:=a;cases w with
  |nil=>simp at z
  |cons b f=>
   obtain⟨M,N⟩:=eQ.1 (s b dy);refine List.mem_flatMap.2 ⟨b.toNat,by rw[cu];exact N,List.mem_map.2 ⟨b::f,?_,rfl⟩⟩;rw[GX.RP,show((b.toNat:Nat):Int)=b by omega];refine RM f 3 [b] (by simp at A;omega) dy (λP G=>?_) (by rw[GX.dx];exact r);obtain⟨m,H,rfl⟩:=db G;obtain⟨p1,p2⟩:=eQ.1 (s f[m] dy);obtain⟨⟨o,_⟩,y⟩:=B (m+1) dz;have l:=y 0 J;have c:(b::f).getD (m+1) 0=f[m]:=by simp[List.getD,H]
   have d:(b::f).getD 0 0=b:=by simp[List.getD]
   rw[c,d]at o l;have x:([b]:List Int).getD 0 0=b:=by simp[List.getD]
   rw[x];simp only[bK,bj]at o l;refine⟨?_,J,M⟩;rcases Int.lt_or_eq_of_le (Int.not_lt.1 o)with k|k
   ·exact k
   ·rw[k]at l;exact absurd rfl l
 ·split at a
  ·rename_i u;simp only[ax]at u;obtain⟨⟨⟨C,D⟩,r⟩,F⟩:=u;obtain⟨g,rfl,q⟩:=Cm C;obtain⟨h,rfl,t⟩:=Cm D;obtain⟨i,rfl,E⟩:=Cm r;obtain⟨j,rfl,O⟩:=Cm F;split at a
   ·rename_i e;subst e;simp only[ax,aI]at a;obtain⟨⟨⟨c,d⟩,rfl⟩,_⟩:=a;have c:i=0:=J;have d:j=0:=J;subst c d;left;left;left;exact List.mem_flatMap.2 ⟨g,by rw[cu];exact q,List.mem_flatMap.2 ⟨h,by rw[cu];exact t,by unfold kr;rw[aq (by exact p)];exact List.mem_singleton.2 rfl⟩⟩
   ·split at a
    ·rename_i e;subst e;simp only[ax,aI]at a;obtain⟨⟨⟨c,d⟩,rfl⟩,_⟩:=a;have c:i=0:=J;have d:j=0:=J;subst c d;left;right;exact List.mem_flatMap.2 ⟨g,by rw[cu];exact q,List.mem_flatMap.2 ⟨h,by rw[cu];exact t,by unfold kr;rw[aq (by exact p)];exact List.mem_singleton.2 rfl⟩⟩
    ·split at a
     ·rename_i e;subst e;simp only[ax,aI]at a;obtain⟨rfl,a⟩:=a;unfold GX.JI kH at a;simp only[ax,aI]at a;obtain⟨⟨⟨⟨⟨⟨⟨⟨Q,R⟩,I⟩,_⟩,_⟩,K⟩,L⟩,_⟩,_⟩:=a;right;refine List.mem_flatMap.2 ⟨g,by rw[cu];exact q,List.mem_flatMap.2 ⟨h,?_,?_⟩⟩
      ·unfold jF;rw[List.mem_range'_1];omega
      ·rw[aq ⟨I,K.1.1.1,L.1.1.2⟩];refine List.mem_flatMap.2 ⟨i,by rw[cu];exact E,List.mem_flatMap.2 ⟨j,?_,?_⟩⟩
       ·unfold jF;rw[List.mem_range'_1];omega
       ·unfold kr;rw[aq (by exact p)];exact List.mem_singleton.2 rfl
     ·simp at a
  ·simp at a
end
noncomputable section
open Go Go.TI Tryz
attribute [-simp] List.map_take List.map_drop List.map_append fw eY eg Bool.not_or Bool.not_and
attribute [simp] fq eZ
section
attribute [-simp] size_cons
def tI{e:dZ}{d:fH}{a:Int}(h:lA e d=true)(c:iP a e.ei.length=true):∃b,ks a=some a.toNat/\d.ei[a.toNat]? =some b/\mX d a=b:=by
 rw[<-(mT h).1]at c;have⟨b,f,g⟩:=iD c;exact⟨b,em (eQ.1 c).1,f,by simp[mX,g]⟩
def Ct{d:dZ}{e:fH}{b:Int}(g:lA d e=true)(h:iP b d.gJ.length=true):∃a c,ks b=some b.toNat/\d.gJ[b.toNat]? =some a/\ks a.kJ=some a.kJ.toNat/\e.ei[a.kJ.toNat]? =some c/\sI d e b=c:=by
 have⟨a,f,i⟩:=iD h;have⟨c,j,k,l⟩:=tI g (sx g f);exact⟨a,c,em (eQ.1 h).1,f,j,k,by simp[sI,i,l]⟩
def uT{e:dZ}{d:fH}{a:Int}(h:lA e d=true)(c:iP a e.dH.length=true):∃b,ks a=some a.toNat/\d.dH[a.toNat]? =some b/\nS d a=b:=by
 rw[<-(mT h).2.2]at c;have⟨b,f,g⟩:=iD c;exact⟨b,em (eQ.1 c).1,f,by simp[nS,g]⟩
def kl.at{b:dR}(j:kl b){i:Int}(c:iP i b.dJ.length=true):∃a:ej,b.dJ[i.toNat]? =some a/\ks i=some i.toNat/\b.gx.e i=a/\iP a.dP b.ez.dH.length=true/\jN b.ez a.kind a.obj=true:=by
 have⟨a,d,f,g,h⟩:=j.ok.e c;exact⟨a,d,em (eQ.1 c).1,f,g,h⟩
def kl.rd{w:dR}(c:kl w){b:Int}(g:iP b w.dJ.length=true):(∀d∈(w.gx.s b).ei,d.eJ.length<=2000)/\(w.gx.s b).BS:=by
 have e:=c.sm.pJ (w:=w.ez) (w.dJ.take b.toNat);rw[(c.ok.s g).1];exact⟨λd hl=>by have f:=e.r d hl;have h:=c.ok.len;simp at f;omega,e.a⟩
def Lh(a:ew)(b:H):fdW b 0 TM a.t=some (.val a.fj.t b):=by
 unfold ew.t ew.cs fH.t fH.cs;simp[-fH.fold,-ew.fold]
def tq:fP:=⟨dR×Int×Int,λa=>[a.1.t,Z a.2.1,Z a.2.2],λa=>kl a.1/\iP a.2.1 a.1.dJ.length=true/\iP a.2.2 a.1.dJ.length=true,λa=> .bool (a.1.gx.nW a.2.1 a.2.2),λa c b=>by simp at b;rw[dR.inj b.1,b.2.1,b.2.2]⟩
def Rf:tq.Ok prog cx 45:=by
 refine fM [(93,mf),(31,BZ)] (iQ 77371547675299043809952719 [(1,[(6,12),(8,12),(9,12)])] func45) (λ_=>10) (by simp[tq]) ?_;rintro⟨d,l,q⟩ ⟨g,m,u⟩ ae t;simp only at g m u;simp[tq]at t|-;obtain⟨N,r,O⟩:=t;have⟨T,K,L,M,X,Y⟩:=g.at m;have⟨b,G,H,I,W,k⟩:=g.at u;have⟨z,j⟩:=g.ok.s m;have y:=(g.rd m).1;have P:=λ{S:fy} (ht:S.p 93=some mf)=>Bi ht yA d l g;generalize pJ d.ez d.jG (d.dJ.take l.toNat)=A at*
 rw[z]at y j;have a:=GX.nW.eq_1 d.gx l q;rw[I,M,z,show d.gx.w=d.ez from rfl]at a;generalize d.gx.nW l q=U at*
 simp[f45,N,r,O,G,H,K,L,kW];refine ee (λn=>?_) (λn=>?_)
 ·simp at n;simp[a,n]
 have Q:¬b.dP=T.dP:=by simpa using n
 rw[ao Q]at a;simp[r,P,Lh];have v:∀c:dU,A.fj.ei[b.obj.toNat]? =some c->c.eJ.length<=1099511627776:=λc hl=>by have:=y c (ay hl);omega
 cases x:decide (b.kind=6)with
 |true=>
  have e:b.kind=6:=by simpa using x
  have⟨c,l1,l2,l3⟩:=tI j (kX k J);have hl:=v c l2;rw[aq (.inl e),l3]at a;simp[l1,l2,Lx,hl,a]
 |false=>
  cases f:decide (b.kind=10)with
  |true=>
   have e:b.kind=10:=by simpa using f
   have⟨c,l1,l2,l3⟩:=tI j (kX k J);have hl:=v c l2;rw[aq (.inr e),l3]at a;simp[f,l1,l2,Lx,hl,a]
  |false=>
   have R:¬(b.kind=6\/b.kind=10):=by simp at x f;omega
   rw[ao R]at a;cases h:decide (b.kind=8)with
   |true=>
    have e:b.kind=8:=by simpa using h
    have⟨c,l1,l2,l3⟩:=tI j (kX k J);rw[aq e,l3]at a;simp[f,h,l1,l2,a]
   |false=>
    rw[ao (by simpa using h)]at a;cases i:decide (b.kind=17)with
    |true=>
     have e:b.kind=17:=by simpa using i
     have⟨V,c,B,C,D,E,F⟩:=Ct j (oK k J);rw[aq e,F]at a;simp[f,h,i,B,C,D,E,a]
    |false=>
     rw[ao (by simpa using i)]at a;cases o:decide (b.kind=21)with
     |true=>
      rw[aq (by simpa using o)]at a;simp[f,h,i,o,a]
     |false=>
      rw[ao (by simpa using o)]at a;simp[f,h,i,o,a]
structure t8(w:dR)(c:eK):Prop where
 hw:kl w
 hc:xc 1000000 w c
def rh{e:Type}{b:List e}{c:Int}(a:iP c b.length=true):b≠ []:=λd=>by rw[d,eQ]at a;simp at a
def t8.l{c:dR}{a:eK}(b:t8 c a)(d:c.dJ≠ []):a.fj.ei.length<=4/\a.fj.done.length<=2/\a.fj.dH.length<=4:=by
 have e:=mT (b.hc.ft d);have f:=lx b.hw.wb;omega
def t8.sm{d:dR}{c:eK}(a:t8 d c)(b:d.dJ≠ []):c.fj.sm:=⟨by have:=a.l b;omega,by have:=a.l b;omega,by have:=a.l b;omega,λe f=>by have:=a.hc.rd e f;omega⟩
def t8.ev{a:dR}{b:eK}(c:t8 a b):a.dJ.length<=1000000:=by have:=c.hw.ok.len;omega
def t8.od{c:dR}{a:eK}(b:t8 c a):a.order.length<=1000000:=by have:=b.hc.od;omega
def qn{c:List ej}{a:Int}{b:ej}(e:0<=a)(d:c[a.toNat]? =some b):lq c a=b:=by unfold lq uR;rw[aq e,d];rfl
def oI:fP:=⟨dR×eK×Int,λa=>[a.1.t,a.2.1.t,Z a.2.2],λa=>t8 a.1 a.2.1,λa=> .bool (ju a.1 a.2.1 a.2.2),λa c b=>by simp at b;rw[show a=c from aC (dR.inj b.1) (aC (eK.inj b.2.1) b.2.2)]⟩
def IK:oI.Ok prog cx 22:=by
 refine fM [(12,m9),(47,mE),(48,oO)] (iQ 16863 [] func22) (λw=>5) (by simp[oI]) ?_;rintro⟨a,b,d⟩ (c:t8 a b) A q;simp[oI]at q|-;obtain⟨j,k,l⟩:=q;have hE:=ju.eq_1 a b d;generalize ju a b d=v at*
 have n:=λ{g:fy} (ht:g.p 12=some m9)=>At ht a b d c.ev c.od;by_cases f:jl a b d<0
 ·rw[aq f]at hE;simp[f22,j,k,l,n,f,hE]
 ·rw[ao f]at hE;have m:=uB f;have⟨e,h,o,x,y,z⟩:=c.hw.at m;rw[qn (eQ.1 m).1 h]at hE;have t:=c.hw.ev e (ay h);have s:a.ez.gJ.length<=1099511627776:=by have:=lx c.hw.wb;omega
  have r:=λ{g:fy} (ht:g.p 47=some mE)=>vC ht a.ez b.fj d e.kind e.obj s (c.sm (rh m));have u:=λ{g:fy} (ht:g.p 48=some oO)=>Gh ht a b d e.mt c.ev t.1;cases i:js a.ez b.fj d e.kind e.obj
  ·rw[i]at hE;simp[f22,j,k,l,n,f,h,o,r,i,hE]
  ·rw[i,aU]at hE;simp[f22,j,k,l,n,f,h,o,r,i,u,hE]
def NP:s7.Ok prog cx 159:=by
 refine fM [] (iQ 19 [] func159) (λf=>1) (by simp[s7]) ?_;rintro⟨e,g⟩ _ h a;simp[s7]at a|-;obtain⟨b,c⟩:=a;by_cases d:0<=e<;>simp[f159,b,c,d,iP]
def Aq{c:fy}(ht:c.p 159=some s7)(a:Int)(b:Nat):rl prog cx c 159 [Z a,Z b]=some (.bool (iP a b)):=gu ht NP (a,b) trivial
def C0:fP:=⟨dZ×fH,λa=>[a.1.t,a.2.t],λa=>lA a.1 a.2=true/\a.1.gJ.length<=1000000,λa=> .bool true,λa b c=>rfl⟩
def Uh:C0.Ok prog cx 158:=by
 refine fM [(159,s7)] (iQ 35315368591455 [] func158) (λv=>1000005) (by simp[C0]) ?_;rintro⟨e,w⟩ ⟨h,r⟩ a l;simp only at h r;simp[C0]at l|-;obtain⟨o,p⟩:=l;have⟨l1,l2,l3⟩:=mT h;simp[f158,o,p,l1,l2,l3];refine fk e.gJ.length J (λn a d=>hU 2 d/\d.get 0=some (dE 6 0 [e.t])/\dF a 2 (.ptr 0 0 0 0)/\dF a 33 (sl (e.gJ.map jb.t))/\dF a 34 (Z e.gJ.length)/\dF a 35 (Z n)) ?_ ?_ J ⟨by exact⟨dy,dy,dy⟩,dy⟩
 ·rintro n a d m q ⟨c,i,j,k,f,g⟩;have s:=sx h (az m);have u:=c.ne (b:=0) J;simp[i,j,k,f,g,m,u,c.low,Aq,s,q];exact c.cons _
 ·rintro a d ⟨c,i,j,k,f,g⟩;simp[f,g,c.hp]
def wE:fP:=⟨dZ×Int×Int,λa=>[a.1.t,Z a.2.1,Z a.2.2],λa=>jN a.1 a.2.1 a.2.2=true,λa=> .bool true,λa b c=>rfl⟩
def Of:wE.Ok prog cx 160:=by
 refine fM [(159,s7)] (iQ 606826398900554784047567 [] func160) (λl=>1) (by simp[wE]) ?_;rintro⟨k,a,j⟩ b m f;replace b:jN k a j=true:=b;simp[wE]at f|-;obtain⟨c,d,e⟩:=f;have hr:=uC b;have g:a=1\/a=2\/a=3\/a=4\/a=5\/a=6\/a=7\/a=8\/a=9\/a=10\/a=11\/a=12\/a=13\/a=14\/a=15\/a=16\/a=17\/a=18\/a=19\/a=20\/a=21\/a=22\/a=23:=J;rcases g with rfl|rfl|rfl|rfl|rfl|rfl|rfl|rfl|rfl|rfl|rfl|rfl|rfl|rfl|rfl|rfl|rfl|rfl|rfl|rfl|rfl|rfl|rfl
 case inr.inr.inr.inr.inr.inl|inr.inr.inr.inr.inr.inr.inl|inr.inr.inr.inr.inr.inr.inr.inl|inr.inr.inr.inr.inr.inr.inr.inr.inl|inr.inr.inr.inr.inr.inr.inr.inr.inr.inl|inr.inr.inr.inr.inr.inr.inr.inr.inr.inr.inl=>
  have hl:=kX b J;obtain⟨n,h,i⟩:=iD hl;simp[jN,i]at b;simp[f160,c,d,e,Aq,hl,h,b,em (eQ.1 hl).1]
 all_goals
  simp[jN]at b;simp[f160,c,d,e,Aq,b]
def uY:fP:=⟨List Int×Int,λa=>[sl (a.1.map (T.int .i64)),Z a.2],λa=>a.1.length<=1000000,λa=> Z (po a.1 a.2 0),λa c b=>by simp at b;rw[jz (λ_ _ b=>by simpa using b) b.1,b.2]⟩
def QS:uY.Ok prog cx 55:=by
 refine yW (tb:=⟨pt [],ht []⟩) iL iB (iQ 66483 [] func55) (λ_=>1000005) (by simp[uY]) nl9 ?_;rintro⟨d,k⟩ hl b l;replace hl:d.length<=1000000:=hl;simp[uY]at l|-;obtain⟨c,e⟩:=l;simp[f55,c];refine fk d.length J (λh b i=>i=hE/\po (d.drop h) k h=po d k 0/\dF b 0 (sl (d.map (T.int .i64)))/\dF b 1 (Z k)/\dF b 7 (Z d.length)/\dF b 8 (Z h)) ?_ ?_ J (by simp[c,e])
 ·rintro h b i m n ⟨rfl,a,c,e,f,g⟩;rw[aH m]at a;simp only[po]at a;simp[c,e,f,g,m];refine ee (λj=>?_) (λj=>?_)
  ·rw[aq (by simpa[eq_comm]using j)]at a;simp[<-a]
  ·rw[ao (by simpa[eq_comm]using j)]at a;simp[c,e,f,g,n,a]
 ·rintro b i ⟨rfl,a,c,e,f,g⟩;rw[bO]at a;simp only[po]at a;simp[f,g,<-a]
def MY{c:fy}(ht:c.p 55=some uY)(a:List Int)(b:Int)(hl:a.length<=1000000):rl prog cx c 55 [sl (a.map (T.int .i64)),Z b]=some (Z (po a b 0)):=gu ht QS (a,b) hl
def nK:fP:=⟨List Int×Int,λa=>[sl (a.1.map (T.int .i64)),Z a.2],λa=>a.1.length<=1000000,λa=> .bool (decide (a.2∈a.1)),λa c b=>by simp at b;rw[jz (λ_ _ b=>by simpa using b) b.1,b.2]⟩
def KM:nK.Ok prog cx 54:=by
 refine yW (tb:=⟨pt [(55,uY)],ht []⟩) iL iB (iQ 19 [] func54) (λe=>1) (by simp[nK]) nl9 ?_;rintro⟨d,g⟩ hl f a;replace hl:d.length<=1000000:=hl;simp[nK]at a|-;obtain⟨b,c⟩:=a;simp[f54,b,c,MY,hl,Dd]
def oY{c:fy}(ht:c.p 54=some nK)(a:List Int)(b:Int)(hl:a.length<=1000000):rl prog cx c 54 [sl (a.map (T.int .i64)),Z b]=some (.bool (decide (b∈a))):=gu ht KM (a,b) hl
structure EnG(w:dZ)(s:fH)(t k o:Int):Prop where
 f:lA w s=true
 th:iP t w.dH.length=true
 n:jN w k o=true
 c:w.gJ.length<=1000000
 r:∀l∈s.ei,l.eJ.length<=1000000
structure EnF(w:dZ)(s:fH)(t k o:Int):Prop where
 f:lA w s=true
 th:iP t w.dH.length=true
 n:jN w k o=true
 e:yU w s t k o=true
 c:w.gJ.length<=1000000
 r:∀l∈s.ei,l.eJ.length<=1000000
def MA(a b:dZ×fH×Int×Int×Int)(c:([a.1.t,a.2.1.t,Z a.2.2.1,Z a.2.2.2.1,Z a.2.2.2.2]:List T)=[b.1.t,b.2.1.t,Z b.2.2.1,Z b.2.2.2.1,Z b.2.2.2.2]):a=b:=by
 simp at c;exact aC (dZ.inj c.1) (aC (fH.inj c.2.1) (aC c.2.2.1 (aC c.2.2.2.1 c.2.2.2.2)))
def zi:fP:=⟨dZ×fH×Int×Int×Int,λa=>[a.1.t,a.2.1.t,Z a.2.2.1,Z a.2.2.2.1,Z a.2.2.2.2],λa=>EnG a.1 a.2.1 a.2.2.1 a.2.2.2.1 a.2.2.2.2/\a.2.2.2.1≠1/\a.2.2.2.1≠17/\(nS a.2.1 a.2.2.1).iE=2,λa=> .bool (yU a.1 a.2.1 a.2.2.1 a.2.2.2.1 a.2.2.2.2),λa b c=>by rw[MA a b c]⟩
def QA:zi.Ok prog cx 161:=by
 refine fM [(54,nK)] (iQ 5868843906288553182383292937158044313155908148351 [] func161) (λz=>1) (by simp[zi]) ?_;rintro⟨F,D,y,a,x⟩ ⟨⟨f,ht,g,u,hr⟩,v,w,b⟩ E m;simp only at f ht g u hr v w b;simp[zi]at m|-;obtain⟨c,d,h,e,j⟩:=m;have C:=uC g;obtain⟨l1,l2,l3⟩:=mT f;have hc:a=2\/a=3\/a=4\/a=5\/a=12\/a=13\/(a=6\/a=7\/a=8\/a=9\/a=10\/a=11)\/(a=14\/a=15)\/(a=16\/a=18\/a=19)\/(a=20\/a=21)\/(a=22\/a=23):=J;rcases hc with rfl|rfl|rfl|rfl|rfl|rfl|hc|hc|hc|hc|hc
 case inr.inr.inr.inr.inr.inr.inl=>
  obtain⟨i,a1,a2,a3⟩:=tI f (kX g J);have hl:=hr i (ay a2);rcases hc with rfl|rfl|rfl|rfl|rfl|rfl<;>cases l:decide (i.iZ=-1)<;>simp[f161,c,d,h,e,j,a1,a2,oY,hl,yU,b,a3,l]
 case inr.inr.inr.inr.inr.inr.inr.inl=>
  obtain⟨i,a1,a2,a3⟩:=uT f ht;rw[a3]at b;rcases hc with rfl|rfl<;>simp[f161,c,d,h,e,a1,a2,yU,a3,b]
 case inr.inr.inr.inr.inr.inr.inr.inr.inl=>
  obtain⟨A,i,n,o,p,q,r⟩:=Ct f (oK g J);rcases hc with rfl|rfl|rfl<;>simp[f161,c,d,h,e,j,n,o,p,q,yU,b,r]
 case inr.inr.inr.inr.inr.inr.inr.inr.inr.inl=>
  obtain⟨i,a1,a2,a3⟩:=uT f (xE g J);rcases hc with rfl|rfl<;>cases l:decide (x=y)<;>simp[f161,c,d,h,e,j,a1,a2,yU,b,a3,l]
 case inr.inr.inr.inr.inr.inr.inr.inr.inr.inr=>
  have k:=rS g J;rw[<-l2]at k;obtain⟨B,s,t⟩:=iD k;rcases hc with rfl|rfl<;>simp[f161,c,d,e,j,s,em (eQ.1 k).1,yU,b,D6,t]
 all_goals
  simp[f161,c,d,h,e,yU,b]
def nJ:fP:=⟨dZ×fH×Int×Int×Int,λa=>[a.1.t,a.2.1.t,Z a.2.2.1,Z a.2.2.2.1,Z a.2.2.2.2],λa=>EnG a.1 a.2.1 a.2.2.1 a.2.2.2.1 a.2.2.2.2,λa=> .bool (yU a.1 a.2.1 a.2.2.1 a.2.2.2.1 a.2.2.2.2),λa b c=>by rw[MA a b c]⟩
def KK:nJ.Ok prog cx 112:=by
 refine fM [(158,C0),(159,s7),(160,wE),(161,zi)] (iQ 4605278686335 [] func112) (λG=>1) (by simp[nJ]) ?_;rintro⟨b,e,h,a,c⟩ i K q;replace i:EnG b e h a c:=i;have⟨l,ht,r,D,hr⟩:=id i;simp[nJ]at q|-;obtain⟨B,C,n,o,k⟩:=q;have y:∀{d:fy},d.p 158=some C0->rl prog cx d 158 [b.t,e.t]=some (.bool true):=λht=>gu ht Uh (b,e) ⟨l,D⟩;have z:∀{d:fy},d.p 160=some wE->rl prog cx d 160 [b.t,Z a,Z c]=some (.bool true):=λht=>gu ht Of (b,a,c) r;have⟨m,a1,a2,a3⟩:=uT l ht;simp[f112,B,C,n,o,k,y,z,Aq,ht,a1,a2];by_cases f:a=1
 ·subst f;simp[yU,a3]
 by_cases g:a=17
 ·subst g;have⟨H,I,s,u,v,w,x⟩:=Ct l (oK r J);cases E:decide (m.iE=4)<;>cases F:decide (m.cond=c)<;>simp[k,s,u,v,w,yU,a3,x,E,F]
 by_cases j:m.iE=2
 ·have A:∀{d:fy},d.p 161=some zi->rl prog cx d 161 [b.t,e.t,Z h,Z a,Z c]=some (.bool (yU b e h a c)):=λht=>gu ht QA (b,e,h,a,c) ⟨i,f,g,by rw[a3];exact j⟩;simp[n,o,k,f,g,j,A]
 ·have:yU b e h a c=false:=by unfold yU;rw[ao f,ao g,a3,aq j]
  simp[f,g,j,this]
def Gi{a:fy}(ht:a.p 112=some nJ){w:dZ}{s:fH}{t k o:Int}(b:EnG w s t k o):rl prog cx a 112 [w.t,s.t,Z t,Z k,Z o]=some (.bool (yU w s t k o)):=gu ht KK (w,s,t,k,o) b
def OM{b:fy}(ht:b.p 112=some nJ){w:dZ}{s:fH}{t k o:Int}(a:EnF w s t k o):rl prog cx b 112 [w.t,s.t,Z t,Z k,Z o]=some (.bool true):=by rw[Gi ht ⟨a.f,a.th,a.n,a.c,a.r⟩,a.e]
structure TA where
 (v:T) (es:List T)
def BB(e:Nat)(a:TA)(c:List T)(b:H):Prop:=c=[a.v]/\b.jw a.v=some a.es/\(∀d∈a.es,d.cells.length=e)/\a.es.length<=1000000/\hU 0 b
def wG(f:Nat)(e:TA)(g:List T)(b:H)(d:T)(c:H):Prop:=Gr c d f e.es/\Nb b c/\∀a,dS d=some a->b.size<=a
def yL{a bytes:Nat}{l:aj}(x:Er prog cx l (.clone a bytes))(v:1<=bytes)(w:bytes<=1000):(jI TA (BB a) (wG a)).Ok prog cx l:=by
 intro i b ⟨⟨p,e⟩,y⟩;have n:∀h:TA,BB a h i b->∃d c,Da (.clone a bytes) i b=some (d,c)/\wG a h i b d c:=by
  rintro⟨p,e⟩ ⟨rfl,g,m,hl,o⟩;simp only at g m hl;show∃d c,(dW (b.jw p) λe=>List.casesOn e (some (dD,b)) λ_ _=>b.jo a bytes [] e)=some (d,c)/\_;rw[g,ed];cases e with
  |nil=>exact⟨_,_,rfl,Gr.nil _ _,Nb.refl o,λr j=>by simp at j⟩
  |cons F E=>
   refine⟨_,_,pI m v (aO (Nat.mul_le_mul hl w) J),Gr.new (ep:=0) (ver:=0) (ex:=false) dy,(Nb.refl o).cons _,λr j=>by simp at j;omega⟩
 have⟨d,c,k,C⟩:=n _ y;refine⟨d,c,λh g=>?_,λq A B s z u=>x _ _ _ _ k q A B s z u⟩;have⟨r2,D,f,t⟩:=n h g;rw[k]at f;simp only[ar,aB]at f;rw[f.1,f.2];exact t
def Ra:(jI TA (BB 1) (wG 1)).Ok prog cx 109:=yL (wY (fn:=f109) (t:=39) (tb:=4) (te:=Ev) iB func109 dG dG dG dG dG dG dG) dB (bytes:=8) dB 
def Rb:(jI TA (BB 1) (wG 1)).Ok prog cx 162:=yL (wY (fn:=f162) (t:=34) (tb:=4) (te:=Xh) iB func162 dG dG dG dG dG dG dG) dB (bytes:=1) dB 
def Q8:(jI TA (BB 3) (wG 3)).Ok prog cx 163:=yL (wY (fn:=f163) (t:=35) (tb:=4) (te:=H8) iB func163 dG dG dG dG dG dG dG) dB (bytes:=24) dB 
def LkG(f:H)(d:Nat->Prop)(e:T)(c:dU):Prop:=∃a,e= .agg [Z c.iZ,a]/\Gr f a 1 (gG c.eJ)/\∀b,dS a=some b->d b
def LkD(b:List T):Prop:=∀(c d:Nat) (e f g h:T) (a:Nat),b[c]? =some (.agg [g,e])->b[d]? =some (.agg [h,f])->dS e=some a->dS f=some a->c=d
def Wj(c:fH)(j:List T)(h:H)(i:T)(b:H):Prop:=∃d e f g,i=Nr c d e f/\Ca h.size b.size b d e f g c/\Nb h b/\iF (LkG b λa=>h.size<=a/\a<b.size/\dS d≠some a/\dS e≠some a/\dS f≠some a) g c.ei/\LkD g
structure ClO(S:fH)(h h':H)(i:Nat)(es:List T)(ver:Nat):Prop where
 nb:Nb h h'
 z:h.size+3<=h'.size
 b0:h'.get h.size=some (dE 4 0 [S.t])
 b1:h'.get (h.size+1)=some (dE 4 0 [.agg [dD,Z 0,dD,dD]])
 b2:h'.get (h.size+1+1)=some ⟨2,0,ver,true,false,es⟩
 l:es.length=S.ei.length
 c:∀e∈es,∃x y,e= .agg [x,y]
 d:LkD es
 bd:∀(j:Nat) (o x:T) (c:Nat),es[j]? =some (.agg [o,x])->dS x=some c->c<h'.size
 a:iF (LkG h' λk=>h.size+3<=k/\k<h'.size) (es.take i) (S.ei.take i)
def Q9:(jI fH FC Wj).Ok prog cx 113:=by
 refine jx (tb:=⟨pt [],ht [(109,jI TA (BB 1) (wG 1)),(162,jI TA (BB 1) (wG 1)),(163,jI TA (BB 3) (wG 3))]⟩) iL iB (iQ 30783 [(5,[(3,6)])] func113) (λ_ _=>1000005) (λl a d di=>by obtain⟨rfl,_⟩:=di;simp[f113]) ?_;rintro f _ d ⟨rfl,dv,hl,er,ht,hr⟩ z ca;simp at ca;have cL:=dv.hr;simp[f113,ca,show f.ei.length*32<=70368744177664 by omega];refine fk f.ei.length J (λl z i=>∃v ver,ClO f d i l v ver/\dF z 1 (.ptr d.size 0 0 0)/\dF z 2 (.ptr (d.size+1) 0 0 0)/\dF z 3 (.arr (d.size+1+1) 0 0 f.ei.length false)/\dF z 11 (sl (f.ei.map dU.t))/\dF z 12 (Z f.ei.length)/\dF z 13 (Z l)) ?_ ?_ J ?_
 ·rintro l z i a6 dd ⟨v,ver,⟨x,dm,al,bi,bn,aX,bS,bT,aN,ae⟩,U,bN,aA,bH,ap,av⟩;have a8:hU 0 i:=⟨x.ok.hp,x.ok.low,aw _⟩;have et:=hr f.ei[l] (aD a6);have dk:f.ei.take (l+1)=f.ei.take l++[f.ei[l]]:=aR a6;have⟨eh,eo,de⟩:=bS v[l] (aD J);have eu:(d.size+1+1=i.size)=False:=dz;have ds:=a8.low;simp[aA,bH,ap,av,a6,ds];generalize f.ei[l]=w at*
  have b7:=a8.cons (dE 2 1 [w.t]);refine mo Ra dy ⟨sl (gG w.eJ),gG w.eJ⟩ ⟨rfl,dy,by simp[T.cells],dz,b7⟩ ?_;rintro r M ⟨G,y,aE⟩;simp only at G;have ec:=y.ok.sz;simp at ec;have a7:M.get (d.size+1+1)=some ⟨2,0,ver,true,false,v⟩:=(y.get (d.size+1+1) dz).trans (by rw[dT,ao J];exact bn);have ey:fh (i.cons (dE 2 1 [w.t])) M (d.size+1+1)=true:=fD (y.get _ dz);have eb:fh (i.cons (dE 2 1 [w.t])) M i.size=true:=fD (y.get _ dy);simp[U,bN,aA,bH,ap,av,G.ir,G.cells,a7,eb,a6,aX,de,dX,dd];have an:∀c,c<i.size->c≠d.size+1+1->(dY M (d.size+1+1) ⟨2,0,ver+1,true,false,v.set l (.agg [Z w.iZ,r])⟩).get c=i.get c:=λc e N=>by
   rw[dN a7,ao N];exact(y.get c dz).trans (by rw[dT,ao J])
  have ef:=x.ok.sz;refine⟨v.set l (.agg [Z w.iZ,r]),ver+1,⟨⟨(⟨y.ok.hp,y.ok.low,aw _⟩:hU 0 M).put _ _|>.hp,(⟨y.ok.hp,y.ok.low,aw _⟩:hU 0 M).put _ _|>.low,dz⟩,λc e=>(an c J J).trans (x.get c e)⟩,dz,(an _ J J).trans al,(an _ J J).trans bi,by rw[dN a7,aq rfl],by simpa using aX,λC D=>?_,?_,?_,?_⟩
  ·rcases cA D with q|q
   ·exact bS C q
   ·exact⟨_,_,q⟩
  ·intro O k B g o cy c h A j p;rw[cm]at h A;split at h<;>split at A
   ·omega
   ·split at h
    ·simp only[ar,T.agg.injEq,aL,and_true]at h;have:=aE c (by rw[h.2];exact j);have:=aN k _ _ c A p;simp at*;omega
    ·simp at h
   ·split at A
    ·simp only[ar,T.agg.injEq,aL,and_true]at A;have:=aE c (by rw[A.2];exact p);have:=aN O _ _ c h j;simp at*;omega
    ·simp at A
   ·exact bT O k B g o cy c h A j p
  ·intro O o B c h j;rw[cm]at h;rw[fJ];split at h
   ·split at h
    ·simp only[ar,T.agg.injEq,aL,and_true]at h;have⟨_,_,_,_,p,_⟩:=G.box (b:=c) (by rw[h.2];exact j);exact H.fa p
    ·simp at h
   ·have:=aN O _ _ c h j;omega
  ·rw[dk,aR dz];refine iF.append ?_ (.cons ?_ .nil)
   ·rw[List.take_set_of_le (au _)];exact ae.imp λC m ⟨Y,Q,R,u⟩=>⟨Y,Q,R.mono λc e=>an c (u c e).2 (by have:=(u c e).1;omega),λc e=>⟨(u c e).1,by have:=(u c e).2;simp;omega⟩⟩
   ·simp only[List.getElem_set_self];refine⟨r,rfl,(G.mono λc e=>by rw[dN a7,ao (by have:=aE c e;simp at this;omega)]),λc e=>⟨by have:=aE c e;simp at this;omega,?_⟩⟩;have⟨_,_,_,_,p,_⟩:=G.box e;have:=H.fa p;simpa using this
 ·rintro z i ⟨v,ver,⟨x,dm,al,bi,bn,aX,bS,bT,aN,ae⟩,U,bN,aA,bH,ap,av⟩;have a8:hU 0 i:=⟨x.ok.hp,x.ok.low,aw _⟩;have bB:∀g c,(dY i d.size g).get c=if c=d.size then some g else i.get c:=λg c=>dN al g c;simp[U,aA,ap,av,al,bB];have⟨K,V⟩:∃K,K=dY i d.size (dE 4 1 [.agg [.arr (d.size+1+1) 0 0 f.ei.length false,Z f.tx,sl (f.done.map T.bool),sl (f.dH.map dM.t)]]):=⟨_,rfl⟩;have eA:K.size=i.size:=by rw[V];simp
  have ea:hU 0 K:=by rw[V];exact a8.put _ _
  have gA:∀c,c≠d.size->K.get c=i.get c:=λc e=>by rw[V,bB,ao e]
  have c7:K.get d.size=some (dE 4 1 [.agg [.arr (d.size+1+1) 0 0 f.ei.length false,Z f.tx,sl (f.done.map T.bool),sl (f.dH.map dM.t)]]):=by rw[V,bB,aq rfl]
  rw[<-V];refine iy Rb dy ⟨sl (f.done.map T.bool),f.done.map T.bool⟩ ⟨rfl,dy,by intro C D;obtain⟨b,_,rfl⟩:=List.mem_map.1 D;rfl,dz,ea⟩ ?_;rintro F s ⟨S,P,c1⟩;simp only at S;have eB:=P.ok.sz;have cb:=(P.get d.size J).trans c7;have bC:∀g c,(dY s d.size g).get c=if c=d.size then some g else s.get c:=λg c=>dN cb g c;simp[U,S.ir,S.cells,cb,bC,dX];have⟨L,W⟩:∃L,L=dY s d.size (dE 4 2 [.agg [.arr (d.size+1+1) 0 0 f.ei.length false,Z f.tx,F,sl (f.dH.map dM.t)]]):=⟨_,rfl⟩;have eC:L.size=s.size:=by rw[W];simp
  have b7:hU 0 L:=by rw[W];exact(⟨P.ok.hp,P.ok.low,aw _⟩:hU 0 s).put _ _
  have bu:∀c,c≠d.size->L.get c=s.get c:=λc e=>by rw[W,bC,ao e]
  have c9:L.get d.size=some (dE 4 2 [.agg [.arr (d.size+1+1) 0 0 f.ei.length false,Z f.tx,F,sl (f.dH.map dM.t)]]):=by rw[W,bC,aq rfl]
  rw[<-W];refine iy Q8 dy ⟨sl (f.dH.map dM.t),f.dH.map dM.t⟩ ⟨rfl,dy,by intro C D;obtain⟨b,_,rfl⟩:=List.mem_map.1 D;rfl,dz,b7⟩ ?_;rintro X n ⟨gT,E,c4⟩;simp only at gT;have eD:=E.ok.sz;have N7:hU 0 n:=⟨E.ok.hp,E.ok.low,aw _⟩;have cp:=(E.get d.size J).trans c9;have dn:n.get (d.size+1)=_:=(E.get (d.size+1) J).trans ((bu _ J).trans ((P.get _ J).trans ((gA _ J).trans bi)));have b9:∀g c,(dY n d.size g).get c=if c=d.size then some g else n.get c:=λg c=>dN cp g c;have I:∀g B c,(dY (dY n d.size g) (d.size+1) B).get c=if c=d.size+1 then some B else if c=d.size then some g else n.get c:=λg B c=>by
   rw[mr (by simp[N7.hp]) dz,b9]
  simp[U,bN,gT.ir,gT.cells,cp,dn,b9,I,dX];rw[bL J,aK]at ae;have bs:∀c,c<i.size->c≠d.size->n.get c=i.get c:=λc e N=>(E.get c J).trans ((bu c N).trans ((P.get c J).trans (gA c N)));have c6:∀c,c<s.size->c≠d.size->n.get c=s.get c:=λc e N=>(E.get c J).trans (bu c N);have ef:=x.ok.sz;have bX:∀c,dS F=some c->i.size<=c/\c<s.size:=λc e=>⟨by have:=c1 c e;omega,by have⟨_,_,_,_,p,_⟩:=S.box e;exact H.fa p⟩;have b6:∀c,dS X=some c->s.size<=c/\c<n.size:=λc e=>⟨by have:=c4 c e;omega,by have⟨_,_,_,_,p,_⟩:=gT.box e;exact H.fa p⟩;have b8:iF (LkG (lO d (dY (dY n d.size (dE 4 3 [.agg [.arr (d.size+1+1) 0 0 f.ei.length false,Z f.tx,F,X]])) (d.size+1) (dE 4 1 [.agg [.arr (d.size+1+1) 0 0 f.ei.length false,Z f.tx,F,X]]))) λc=>d.size<=c/\c<n.size/\dS (.arr (d.size+1+1) 0 0 f.ei.length false)≠some c/\dS F≠some c/\dS X≠some c) v f.ei:=ae.imp λC w ⟨Y,Q,R,u⟩=>⟨Y,Q,R.mono λc e=>by
   have:=u c e;rw[fW,I,ao J,ao J,bs _ J J],λc e=>by
   have:=u c e;exact⟨J,J,dz,λq=>by have:=bX c q;omega,λq=>by have:=b6 c q;omega⟩⟩
  refine⟨.arr (d.size+1+1) 0 0 f.ei.length false,F,X,v,rfl,⟨?_,S.mono λc e=>?_,gT.mono λc e=>?_,b8.imp λC w ⟨Y,Q,R,u⟩=>⟨Y,Q,.inr R,by simpa using u⟩,λc e=>?_⟩,⟨⟨?_,?_,?_⟩,λc e=>?_⟩,by simpa using b8,bT⟩
  ·rw[<-aX];exact Gr.new (ep:=0) (ver:=ver) (ex:=true) (by rw[fW,I,ao J,ao J,bs _ J J];exact bn)
  ·have:=bX c e;rw[fW,I,ao J,ao J,c6 _ J J]
  ·have:=b6 c e;rw[fW,I,ao J,ao J]
  ·simp;rcases e with q|q|q
   ·simp at q;omega
   ·have:=bX c q;omega
   ·have:=b6 c q;omega
  ·exact(((N7.put _ _).put _ _).out d).hp
  ·exact(((N7.put _ _).put _ _).out d).low
  ·simp;omega
  ·rw[fW,I,ao J,ao J,bs _ J J];exact x.get c e
 ·simp;refine⟨List.replicate f.ei.length (.agg [Z 0,dD]),0,⟨(((Nb.refl cL).cons _).cons _).cons _|>.ok,λc e=>(((((Nb.refl cL).cons _).cons _).cons _).get c e).trans (gU d c)⟩,dy,dy,dy,dy,dy,λC D=>⟨_,_,(bV D)⟩,?_,?_,.nil⟩
  ·intro O k B g o cy c h _ j _;have:=bV (ay h);simp only[T.agg.injEq,aL,and_true]at this;rw[this.2]at j;simp at j
  ·intro O o B c h j;have:=bV (ay h);simp only[T.agg.injEq,aL,and_true]at this;rw[this.2]at j;simp at j
def xh:fP:=⟨dM×Int,λa=>[a.1.t,Z a.2],λa=>True,λa=> .bool (decide (a.1.iE=3)&&decide (a.1.cond=a.2)),λa c b=>by simp at b;rw[dM.inj b.1,b.2]⟩
def Qp:xh.Ok prog cx 167:=by
 refine fM [] (iQ 23 [] func167) (λd=>1) (by simp[xh]) ?_;rintro⟨f,e⟩ _ g a;simp[xh]at a|-;obtain⟨b,c⟩:=a;simp[f167,b,c]
def MT{c:fy}(ht:c.p 167=some xh)(a:dM)(b:Int):rl prog cx c 167 [a.t,Z b]=some (.bool (decide (a.iE=3)&&decide (a.cond=b))):=gu ht Qp (a,b) trivial
def Nk(d:Int):∀(a c:List dM) (b:Nat),iA d (a++c) b=iA d a b++iA d c (b+a.length):=by
 intro a;induction a with
 |nil=>intro c b;rfl
 |cons f a e=>intro c b;simp only[cE,iA,e,aT];rw[show b+(a.length+1)=b+1+a.length by omega];split<;>rfl
def CG(c:Int)(b:List dM){a:Nat}(d:a<b.length):iA c (b.take (a+1)) 0=iA c (b.take a) 0++(if b[a].iE=3/\b[a].cond=c then [(a:Int)]else []):=by
 rw[aR d,Nk,List.length_take,cw J];simp[iA]
def ny(a:Int)(W:List Int):Int:=if a∈W then a else W.headD (-1)
structure JV where
 (S:fH) (c0 c2 c3:T) (c wk:Int)
structure Zf(h h':H)(c3:T)(l:List dM):Prop where
 g:Gr h' c3 3 (l.map dM.t)
 ok:hU h.size h'
 fr:∀c,c<h.size->dS c3≠some c->h'.get c=h.get c
def Wb(a:JV)(d:List T)(b:H):Prop:=d=[Nr a.S a.c0 a.c2 a.c3,Z a.c,Z a.wk]/\Gr b a.c3 3 (a.S.dH.map dM.t)/\hU 0 b/\a.S.dH.length<=1000000
def Qb(a:JV)(g:List T)(d:H)(f:T)(e:H):Prop:=∃b,f= Z b/\b=ny a.wk (iA a.c a.S.dH 0)/\Zf d e a.c3 (if iA a.c a.S.dH 0=[]then a.S.dH else a.S.dH.modify b.toNat (kF 4))
def NM{wk:Int}{W:List Int}{b:Nat}(d:∀c∈W,0<=c/\c<b):ny wk (W++[(b:Int)])=if ny wk W<0\/(b:Int)=wk then(b:Int)else ny wk W:=by
 unfold ny;by_cases a:wk∈W
 ·have:=d wk a;rw[aq (by simp[a]),aq a,ao J]
 ·rw[ao a];by_cases e:(b:Int)=wk
  ·subst e;rw[aq dy,aq (.inr rfl)]
  ·rw[ao (by simp[a];omega)];cases W with
   |nil=>simp
   |cons c W=>have:=d c dy;simp;intro f;omega
def QE:(jI JV Wb Qb).Ok prog cx 118:=by
 refine jx (tb:=⟨pt [(167,xh)],ht []⟩) iL iB (iQ 9126837199 [] func118) (λ_ _=>1000005) (λi a d bu=>by obtain⟨rfl,_⟩:=bu;simp[f118]) ?_;rintro⟨⟨L,a6,bS,b⟩,ae,al,M,c,wk⟩ _ d ⟨rfl,m,aX,hl⟩ g ap;simp only at m hl;simp[Nr]at ap;obtain⟨a8,h,p⟩:=ap;have aE:=λh:H=>m.len (cx:=cx) h No _ rfl;rw[aG]at aE;have Y:∀e,dS M=some e->e<d.size:=λe bs=>by obtain⟨_,_,_,_,bB,_⟩:=m.box bs;exact H.fa bB
 simp[f118,a8,aE];refine fk b.length J (λi g h'=>Nb d h'/\d.size<h'.size/\h'.get d.size=some (dE 4 0 [.agg [ae,Z a6,al,M]])/\dF g 1 (Z c)/\dF g 2 (Z wk)/\dF g 3 (.ptr d.size 0 0 0)/\dF g 7 (Z (ny wk (iA c (b.take i) 0)))/\dF g 11 M/\dF g 12 (Z b.length)/\dF g 13 (Z i)) ?_ ?_ J ?_
 ·rintro i g h' R av ⟨f,bC,K,h,p,I,n,G,z,A⟩;have v:hU 0 h':=⟨f.ok.hp,f.ok.low,aw _⟩;obtain⟨e,N,V,O,a7,C,r,j,S⟩:=m.at (x:=b[i].t) (i:=i) (by simp[R]);rw[aG]at C S;subst C;have o:=(f.get e (H.fa r)).trans r;have bT:(e=h'.size)=False:=by have:=H.fa o;simp;omega
  have bH:=v.low;have U:=CG c b R;simp[h,p,n,G,z,A,R,o,j,bH,MT];generalize b[i]=l at*
  have bi:∀x∈iA c (b.take i) 0,0<=x/\x<i:=λx j=>by
   obtain⟨u,y,D⟩:=uc j;simp at D;omega
  have P:=NM (wk:=wk) bi;have aN:=f.cons (dE 3 1 [l.t]);have X:(h'.cons (dE 3 1 [l.t])).get d.size=some (dE 4 0 [.agg [ae,Z a6,al,.arr e N 0 b.length false]]):=by rw[dT,ao J];exact K
  refine ee (λq=>?_) (λq=>?_)
  ·simp only[ax,bY,aI]at q;rw[aq ⟨q.1.1,q.1.2⟩]at U;rw[aq q.2,<-U]at P;simp[h,p,I,G,z,A,av];exact⟨aN,J,by simpa using X,P.symm⟩
  ·simp[h,p,I,n,G,z,A,av];refine⟨aN,J,by simpa using X,?_⟩;rw[U];split
   ·rename_i aA;simp only[Bool.and_eq_false_iff,bM,bj]at q;rw[P,ao];rcases q with(q|q)|q
    ·exact absurd aA.1 q
    ·exact absurd aA.2 q
    ·rintro(k|k)
     ·exact q.1 k
     ·exact q.2 k
   ·simp
 ·rintro g h' ⟨f,bC,K,h,p,I,n,G,z,A⟩;rw[aK]at n;simp[n,z,A];have v:hU 0 h':=⟨f.ok.hp,f.ok.low,aw _⟩;refine ee (λq=>?_) (λq=>?_)
  ·have q:0<=ny wk (iA c b 0):=by simpa using q
   have s:ny wk (iA c b 0)∈iA c b 0:=by
    generalize iA c b 0=W at*
    unfold ny at*
    split
    ·assumption
    ·rename_i E;rw[ao E]at q;cases W with
     |nil=>simp at q
     |cons x W=>simp
   obtain⟨u,y,D⟩:=uc s;have T:iA c b 0≠ []:=λk=>by rw[k]at s;simp at s
   obtain⟨l,ht⟩:∃l,b[u]? =some l:=⟨_,az D⟩;obtain⟨e,N,V,O,a7,C,r,j,S⟩:=m.at (x:=l.t) (i:=u) (by simp[ht]);rw[aG]at C S;subst C;have o:=(f.get e (H.fa r)).trans r;simp at y;simp[I,n,K,y,o,j,D];refine⟨_,rfl,y.symm,?_⟩;simp only;rw[ao T,cz,oL ht];have bN:=H.fa r;refine⟨?_,⟨((v.put e _).out d).hp,((v.put e _).out d).low,dz⟩,λF B E=>?_⟩
   ·have an:=(m.mono (h':=h') λw Q=>f.get w (Y w Q)).setAt rfl o u (kF 4 l).t (h':=lO d (dY h' e ⟨3,N,V+1,O,false,a7.set u (kF 4 l).t⟩)) (ver2:=V+1) (ex2:=O) (by rw[fW,dN o,aq rfl]);rw[<-bA]at an;exact an
   ·simp at E;rw[fW,dN o,ao J];exact f.get F B
  ·have q:¬0<=ny wk (iA c b 0):=by simpa using q
   have T:iA c b 0=[]:=by
    generalize bn:iA c b 0=W at*
    have s:∀x∈W,0<=x:=λx j=>by rw[<-bn]at j;obtain⟨u,y,D⟩:=uc j;omega
    unfold ny at q;split at q
    ·rename_i E;exact absurd (s _ E) q
    ·cases W with
     |nil=>rfl
     |cons x W=>have:=s x dy;simp at q;omega
   simp[n];refine⟨_,rfl,rfl,?_⟩;simp only;rw[aq T];exact⟨(m.mono (h':=h') λw Q=>f.get w (Y w Q)).out d,⟨(v.out d).hp,(v.out d).low,dz⟩,λF B _=>(fW d h' F).trans (f.get F B)⟩
 ·simp;exact⟨⟨((Nb.refl aX.hr).cons _).ok,λc B=>(((Nb.refl aX.hr).cons _).get c B).trans (gU d c)⟩,h,p,by simp[ny,iA]⟩
def Dp(b:Int)(a:dM):dM:=if a.iE=3/\a.cond=b then kF 4 a else a
def Wc(a:JV)(d:List T)(b:H):Prop:=d=[Nr a.S a.c0 a.c2 a.c3,Z a.c]/\Gr b a.c3 3 (a.S.dH.map dM.t)/\hU 0 b/\a.S.dH.length<=1000000
def Qc(a:JV)(f:List T)(b:H)(e:T)(d:H):Prop:=e= Z (iA a.c a.S.dH 0).length/\Zf b d a.c3 (a.S.dH.map (Dp a.c))
def IE:(jI JV Wc Qc).Ok prog cx 119:=by
 refine jx (tb:=⟨pt [(167,xh)],ht []⟩) iL iB (iQ 270071 [] func119) (λ_ _=>1000005) (λi a d bi=>by obtain⟨rfl,_⟩:=bi;simp[f119]) ?_;rintro⟨⟨L,bC,bN,b⟩,av,aA,v,e,b6⟩ _ d ⟨rfl,C,al,hl⟩ l U;simp only at C hl;simp[Nr]at U;obtain⟨aX,m⟩:=U;have ae:=λm:H=>C.len (cx:=cx) m No _ rfl;rw[aG]at ae;have S:∀f,dS v=some f->f<d.size:=λf E=>by obtain⟨_,_,_,_,bs,_⟩:=C.box E;exact H.fa bs
 simp[f119,aX,ae];refine fk b.length J (λi l h'=>hU d.size h'/\d.size<h'.size/\h'.get d.size=some (dE 4 0 [.agg [av,Z bC,aA,v]])/\(∀c,c<d.size->dS v≠some c->h'.get c=d.get c)/\Gr h' v 3 (((b.take i).map (Dp e)++b.drop i).map dM.t)/\dF l 1 (Z e)/\dF l 2 (.ptr d.size 0 0 0)/\dF l 5 (Z (iA e (b.take i) 0).length)/\dF l 9 v/\dF l 10 (Z b.length)/\dF l 11 (Z i)) ?_ ?_ J ?_
 ·rintro i l h' n V ⟨u,Q,I,B,r,m,M,z,D,w,y⟩;have bB:hU 0 h':=⟨u.hp,u.low,aw _⟩;have X:((b.take i).map (Dp e)++b.drop i)[i]? =some b[i]:=by
   rw[cY dz];simp[cw (show i<=b.length by omega),n]
  obtain⟨f,aE,ap,T,bH,W,N,Y,a8⟩:=r.at (x:=b[i].t) (i:=i) (by simp[X]);have a7:(((b.take i).map (Dp e)++b.drop i).map dM.t).length=b.length:=dz;rw[a7]at W a8;subst W;have bT:(f=h'.size)=False:=by have:=H.fa N;simp;omega
  have E:f<d.size:=S f rfl;have bu:=bB.low;have F:=CG e b n;have bS:(iA e (b.take i) 0).length<=i:=by have:=CH e (b.take i) 0;simp at this;omega
  have a6:binop .add (Z ((iA e (b.take i) 0).length:Int)) (Z 1)=some (Z (((iA e (b.take i) 0).length:Int)+1)):=iz J J;have P:(b.take (i+1)).map (Dp e)++b.drop (i+1)=((b.take i).map (Dp e)++b.drop i).set i (Dp e b[i]):=by
   rw[List.set_append_right _ _ dz,aR n,List.map_append,aH n];simp[cw (show i<=b.length by omega)];rw[aH n];rfl
  simp[m,D,w,y,n,N,Y,bu,MT];have A:Dp e b[i]=if b[i].iE=3/\b[i].cond=e then kF 4 b[i]else b[i]:=rfl;generalize b[i]=h at*
  have an:=u.cons (dE 3 1 [h.t]);have q:∀c,c<h'.size->(h'.cons (dE 3 1 [h.t])).get c=h'.get c:=λc g=>by rw[dT,ao J]
  refine ee (λp=>?_) (λp=>?_)
  ·simp only[ax,aI]at p;rw[aq p]at F A;have O:=(q f J).trans N;have R:=(q d.size Q).trans I;have bX:(f=d.size)=False:=dz;simp[m,M,z,D,w,y,R,O,Y,n,a6,V];have K:∀G c,(dY (h'.cons (dE 3 1 [h.t])) f G).get c=if c=f then some G else(h'.cons (dE 3 1 [h.t])).get c:=λG c=>dN O G c;refine⟨an.put _ _,J,by rw[K,ao J];exact R,λc g s=>by rw[K,ao (λp=>s p.symm),q c J];exact B c g (by simpa using s),?_,by rw[F];simp⟩;have aN:=r.mono (h':=h'.cons (dE 3 1 [h.t])) λc g=>q c (by simp at g;omega);have:=aN.setAt rfl O i (kF 4 h).t (h':=dY (h'.cons (dE 3 1 [h.t])) f ⟨3,aE,ap+1,T,false,bH.set i (kF 4 h).t⟩) (ver2:=ap+1) (ex2:=T) (by rw[K,aq rfl]);rw[<-bA,<-A,<-P]at this;rw[A]at this;exact this
  ·rw[ao (by simpa using p)]at F A;simp[m,M,z,D,w,y,V];refine⟨an,J,by simpa using(q d.size Q).trans I,λc g s=>by rw[ao J];exact B c g (by simpa using s),?_,by rw[F];simp⟩;have bn:((b.take i).map (Dp e)++b.drop i).set i h=(b.take i).map (Dp e)++b.drop i:=by
    apply cW;intro j;rw[cm];split
    ·rename_i k;subst k;rw[X];simp;omega
    ·rfl
   rw[A,bn]at P;have:=r.mono (h':=h'.cons (dE 3 1 [h.t])) λc g=>q c (by simp at g;omega);rw[<-P]at this;simpa using this
 ·rintro l h' ⟨u,Q,I,B,r,m,M,z,D,w,y⟩;rw[aK,bO,bP]at r;rw[aK]at z;simp[z,w,y];exact⟨rfl,r.out d,⟨(u.out d).hp,(u.out d).low,dz⟩,λc g s=>(fW d h' c).trans (B c g s)⟩
 ·simp;exact⟨⟨al.hr.hp,al.hr.low,au _⟩|>λ(o:hU d.size (TI.hr d))=>o.cons _,λc g _ p=>by omega,(C.mono (h':=TI.hr d) λf _=>gU d f).mono λf E=>by rw[dT,ao (by have:=S f E;simp;omega)],m,by simp[iA]⟩
structure WT(h h':H)(v:T)(l:List Int):Prop where
 g:Gr h' v 1 (gG l)
 ok:hU h.size h'
 fr:∀c,c<h.size->dS v≠some c->h'.get c=h.get c
def QJ:oa prog cx 244 (λa:Int=>[Z a]) (λ_=>True) (λ_ d=>d= .bool false):=by
 refine yV (tb:=⟨pt [],ht []⟩) iL iB (iQ 5 [] func244) (λ_=>10) (λa e c=>by simpa using c) dy nl9 ?_;rintro(a:Int) _ f b;simp at b;simp[f244,b]
def Fx:fP:=⟨Int×Int,λa=>[Z a.1,Z a.2],λa=>True,λa=> .bool (decide (a.1<a.2)),λa c b=>by simp at b;rw[b.1,b.2]⟩
def XR:Fx.Ok prog cx 210:=by
 refine yW (tb:=⟨pt [(244,QJ.jA)],ht []⟩) iL iB (iQ 19 [] func210) (λa=>1) (by simp[Fx]) nl9 ?_;rintro⟨a,c⟩ _ h b;simp[Fx]at b|-;obtain⟨e,f⟩:=b;obtain⟨_,rfl,d⟩:=QJ.use a trivial;obtain⟨_,rfl,g⟩:=QJ.use c trivial;simp[f210,e,f,d]
def Sv{c:fy}(ht:c.p 210=some Fx)(a b:Int):rl prog cx c 210 [Z a,Z b]=some (.bool (decide (a<b))):=gu ht XR (a,b) trivial
structure Te where
 (A:List Int) (t:Int) (v:T)
def Wd(a:Te)(c:List T)(b:H):Prop:=c=[a.v,Z 0,Z ((a.A++[a.t]).length:Nat)]/\Gr b a.v 1 (gG (a.A++[a.t]))/\hU 0 b/\JX a.A/\a.t∉a.A/\a.A.length<=10
def GH(a:Te)(d:List T)(b:H)(e:T)(c:H):Prop:=WT b c a.v (mp a.A a.t)
def K4{d:Int}:∀{b a:List Int},(∀c∈b,c<d)->(∀c∈a,d<c)->mp (b++a) d=b++d::a:=by
 intro b;induction b with
 |nil=>
  intro a _ e;cases a with
  |nil=>rfl
  |cons f a=>have:=e f dy;simp[mp];rw[ao J,ao J]
 |cons c b i=>intro a g e;have:=g c dy;simp only[cE,mp];rw[aq this,i (λf h=>g f (by simp[h])) e]
def Ns{b:List Int}{c:Int}{a:Nat}(d:a<b.length):((gG (b.take (a+1)++c::b.drop (a+1))).set (a+1) (Z b[a])).set a (Z c)=gG (b.take a++c::b.drop a):=by
 have e:(b.take a).length=a:=dz;rw[aR d,aH d];simp only[gG,List.map_append,aP,aZ,cE,List.nil_append];have f:(List.map (T.int .i64) (b.take a)).length=a:=by simpa using e
 rw[List.set_append_right _ _ J,List.set_append_right _ _ J,f];simp
def N5:(jI Te Wd GH).Ok prog cx 204:=by
 refine jx (tb:=⟨pt [(210,Fx)],ht []⟩) iL iB (iQ 1073746119 [] func204) (λ_ _=>100) (λi a e aA=>by obtain⟨rfl,_⟩:=aA;simp[f204]) ?_;rintro⟨b,f,o⟩ _ e ⟨rfl,g,G,O,ht,hl⟩ h an;simp only at g O ht hl;simp at an;obtain⟨p,n,m⟩:=an;simp[f204,n];have bH:Gr (TI.hr e) o 1 (gG (b++[f])):=g.mono λl _=>gU e l;have bn:binop .add (Z 0) (Z 1)=some (Z 1):=iz J J;simp[bn];refine rO (b.length+1) (λk h h'=>1<=k/\WT e (lO e h') o (if k<=b.length then b++[f]else mp b f)/\hU e.size h'/\dF h 0 o/\dF h 1 (Z 0)/\dF h 2 (Z ((b.length:Int)+1))/\dF h 6 (Z k)) ?_ J (k:=1) J ?_
 ·rintro k h h' b9 ⟨b8,v,H,p,n,m,q⟩;have cp:hU 0 h':=⟨H.hp,H.low,aw _⟩;by_cases ca:k<b.length+1
  ·have P:binop .add (Z (k:Int)) (Z 1)=some (Z ((k:Int)+1)):=iz J J;rw[aq J]at v;have N:Gr h' o 1 (gG (b++[f])):=v.g.mono λl _=>(fW e h' l).symm;have bN:binop .sub (Z (k:Int)) (Z 1)=some (Z ((k-1:Nat):Int)):=by rw[kx J J];congr 2;omega
   simp[m,q,show(k:Int)<b.length+1 by omega];by_cases av:k<b.length
   ·have⟨p1,K,L⟩:=(show pK h' 1 o _ from .inr N).idx (te:=Ev) rfl rfl (i:=k) (x:= Z b[k]) (by simp[List.getElem?_append,av]) rfl;have⟨p2,a6,a7⟩:=(show pK h' 1 o _ from .inr N).idx (te:=Ev) rfl rfl (i:=k-1) (x:= Z b[k-1]) (by simp[List.getElem?_append,show k-1<b.length by omega]) rfl;have T:¬b[k]<b[k-1]:=by
     have:=List.pairwise_iff_getElem.1 O (k-1) k J av J;omega
    refine rO 1 (λ_ h j=>h'=j/\dF h 0 o/\dF h 1 (Z 0)/\dF h 2 (Z ((b.length:Int)+1))/\dF h 6 (Z k)/\dF h 7 (Z k)) ?_ J (k:=0) J (by simp[p,n,m,q]);rintro _ h _ _ ⟨rfl,p,n,m,q,z⟩;simp[p,n,m,q,z,K,L,a6,a7,bN,Sv,T,P];exact⟨k+1,J,J,J,by rw[aq J];exact v,H,dy⟩
   ·have bu:k=b.length:=J;subst bu;have bs:=v.fr;refine rO b.length (λW h j=>∃r,r+W=b.length/\Gr j o 1 (gG (b.take r++f::b.drop r))/\hU e.size j/\(∀d,d<e.size->dS o≠some d->j.get d=e.get d)/\(∀x∈b.drop r,f<x)/\dF h 0 o/\dF h 1 (Z 0)/\dF h 2 (Z ((b.length:Int)+1))/\dF h 6 (Z b.length)/\dF h 7 (Z r)) ?_ J (k:=0) J ⟨b.length,J,by simpa using N,H,λd A u=>(fW e h' d).symm.trans (bs d A u),dy,by simp[p,n,m,q]⟩;rintro W h j aA ⟨r,b7,F,s,Y,ap,p,n,m,q,z⟩;have cy:hU 0 j:=⟨s.hp,s.low,aw _⟩;have fin:(∀x∈b.take r,x<f)->WT e (lO e j) o (mp b f):=λhl=>by
     have E:=K4 hl ap;rw[cT]at E;rw[E];exact⟨F.out e,⟨(s.out e).hp,(s.out e).low,by simp;exact s.sz⟩,λd A u=>(fW e j d).trans (Y d A u)⟩
    cases r with
    |zero=>
     simp[p,n,m,q,z,P];exact⟨b.length+1,J,J,J,by rw[ao J];exact fin dy,s,dy⟩
    |succ c=>
     have C:c<b.length:=J;have bi:(gG (b.take (c+1)++f::b.drop (c+1))).length=b.length+1:=dz;have K:(b.take (c+1)++f::b.drop (c+1))[c+1]? =some f:=by rw[cY dz];simp[cw (show c+1<=b.length by omega)]
     have L:(b.take (c+1)++f::b.drop (c+1))[c]? =some b[c]:=by rw[cv dz];simp[C]
     have⟨l,M,D,w,I,Q,B,aN,bB⟩:=F.at (x:= Z f) (i:=c+1) (by rw[aW,K];rfl);have⟨bS,bT,cL,bX,c1,R,S,V,T⟩:=F.at (x:= Z b[c]) (i:=c) (by rw[aW,L];rfl);rw[Q]at R;simp at R;obtain⟨rfl,rfl⟩:=R;rw[B]at S;simp at S;obtain⟨rfl,rfl,rfl⟩:=S;rw[bi]at Q bB T;subst Q;have aE:binop .sub (Z ((c:Int)+1)) (Z 1)=some (Z (c:Int)):=by rw[kx J J];congr 2;omega
     have aX:ks ((c:Int)+1)=some (c+1):=by have:=em (show(0:Int)<=((c+1:Nat):Int)by omega);simpa using this
     by_cases U:f<b[c]
     ·have y:∀t d,(dY j l t).get d=if d=l then some t else j.get d:=λt d=>dN B t d;have al:∀t X d,(dY (dY j l t) l X).get d=if d=l then some X else j.get d:=λt X d=>by
       rw[dN (x:=t) (by rw[y,aq rfl]),y];split<;>rfl
      have bC:∀x,(I.set (c+1) x)[c]? =some (Z b[c]):=λx=>by rw[cm,ao J];exact V
      simp[p,n,m,q,z,aE,aX,B,aN,V,show c+1<b.length+1 by omega,show c<b.length+1 by omega,show(0:Int)<(c:Int)+1 by omega,Sv,U,y,bC];have a8:=F.setAt rfl B (c+1) (Z b[c]) (h':=dY j l ⟨1,M,D+1,w,false,I.set (c+1) (Z b[c])⟩) (ver2:=D+1) (ex2:=w) (by rw[y,aq rfl]);have ae:=a8.setAt rfl (by rw[y,aq rfl]) c (Z f) (h':=dY (dY j l ⟨1,M,D+1,w,false,I.set (c+1) (Z b[c])⟩) l ⟨1,M,D+1+1,w,false,(I.set (c+1) (Z b[c])).set c (Z f)⟩) (ver2:=D+1+1) (ex2:=w) (by rw[al,aq rfl]);rw[Ns C]at ae;refine⟨W+1,J,J,c,J,ae,(s.put _ _).put _ _,λd A u=>by rw[al,ao (λE=>u E.symm)];exact Y d A (by simpa using u),λx hx=>?_,rfl⟩;rw[aH C]at hx;rcases List.mem_cons.1 hx with rfl|hx
      ·exact U
      ·exact ap x hx
     ·simp[p,n,m,q,z,aE,aX,B,aN,V,show c+1<b.length+1 by omega,show c<b.length+1 by omega,show(0:Int)<(c:Int)+1 by omega,Sv,U,P];refine⟨b.length+1,J,J,J,?_,s,dy⟩;rw[ao J];refine fin λx hx=>?_;obtain⟨i,b6,rfl⟩:=List.mem_take_iff_getElem.1 hx;have cb:b[c]≠f:=λk=>ht (by rw[<-k];exact aD C);rcases aQ i c with k|k
      ·have:=List.pairwise_iff_getElem.1 O i c J C k;omega
      ·have:i=c:=J;subst this;omega
  ·rw[ao J]at v;simp[m,q,show¬(k:Int)<b.length+1 by omega];exact v
 ·exact⟨J,by
   have:(if 1<=b.length then b++[f]else mp b f)=b++[f]:=by
    split
    ·rfl
    ·rw[show b=[]from bg J];rfl
   rw[this];exact⟨bH.out e,⟨(G.hr.out e).hp,(G.hr.out e).low,au _⟩,λd _ _=>(fW e _ d).trans (gU e d)⟩,⟨G.hr.hp,G.hr.low,au _⟩,by simp[p,n,m]⟩
def V9(a:Te×Int)(c:List T)(b:H):Prop:=c=[a.1.v,Z 0,Z ((a.1.A++[a.1.t]).length:Nat),Z a.2]/\Gr b a.1.v 1 (gG (a.1.A++[a.1.t]))/\hU 0 b/\JX a.1.A/\a.1.t∉a.1.A/\a.1.A.length<=10
def P9(a:Te×Int)(d:List T)(b:H)(e:T)(c:H):Prop:=WT b c a.1.v (mp a.1.A a.1.t)
def WT.out{h c:H}{e:T}{d:List Int}(a:WT (TI.hr h) c e d):WT h (lO h c) e d:=⟨a.g.out h,⟨(a.ok.out h).hp,(a.ok.out h).low,by have:=a.ok.sz;simpa using this⟩,λb f i=>(fW h c b).trans ((a.fr b (by simpa using f) i).trans (gU h b))⟩
def abX:(jI (Te×Int) V9 P9).Ok prog cx 164:=by
 refine jx (tb:=⟨pt [],ht [(204,jI Te Wd GH)]⟩) iL iB (iQ 10384593871817177683247510831234831 [] func164) (λ_ _=>100) (λw t c o=>by obtain⟨rfl,_⟩:=o;simp[f164]) ?_;rintro⟨⟨a,l,g⟩,x⟩ _ c ⟨rfl,h,s,i,ht,hl⟩ b j;simp only at h i ht hl;simp at j;obtain⟨d,e,f,v⟩:=j;have q:binop .sub (Z ((a.length:Int)+1)) (Z 0)=some (Z ((a.length:Int)+1)):=by rw[kx J J];simp
 have p:Gr (TI.hr c) g 1 (gG (a++[l])):=h.mono λm _=>gU c m;simp[f164];refine rO 1 (λ_ b n=>TI.hr c=n/\dF b 0 g/\dF b 1 (Z 0)/\dF b 2 (Z ((a.length:Int)+1))) ?_ J (k:=0) J (by simp[d,e,f]);rintro _ b _ _ ⟨rfl,d,e,f⟩;simp[d,e,f,q,show(a.length:Int)+1<=12 by omega];refine iy N5 dy ⟨a,l,g⟩ ⟨dy,p,s.hr,i,ht,hl⟩ ?_;rintro y u r;simp;exact r.out
def wy:fP:=⟨dR×eK×Int,λa=>[a.1.t,a.2.1.t,Z a.2.2],λa=>t8 a.1 a.2.1,λa=> Z (jl a.1 a.2.1 a.2.2),λa c b=>by simp at b;rw[show a=c from aC (dR.inj b.1) (aC (eK.inj b.2.1) b.2.2)]⟩
def kl.pL{c:dR}(e:kl c){b:ej}(f:b∈c.dJ):iP b.dP c.ez.dH.length=true:=by
 obtain⟨i,g,rfl⟩:=db f;have⟨b,a,_,_,d,_⟩:=e.at (i:=i) (by rw[eQ];omega);simp only[cz]at a;rw[az g]at a;simp only[ar]at a;rw[a];exact d
def KR{e:Int}{i:List Int}:∀{b:List ej} (c:Nat),(∀a∈b,a.dP≠e)->uA e i b c=-1:=by
 intro b;induction b with
 |nil=>intro c _;rfl
 |cons a b g=>
  intro c d;unfold uA;rw[ao λh=>d a dy h.1];exact g _ λa f=>d a (by simp[f])
def T9:wy.Ok prog cx 98:=by
 refine fM [(54,nK)] (iQ 137454944735 [] func98) (λH=>1000) (by simp[wy]) ?_;rintro⟨a,h,d⟩ (l:t8 a h) e y;simp[wy]at y|-;obtain⟨o,p,f⟩:=y;have hl:=l.ev;have K:=l.hw.ok.len;have E:=l.od;cases u:iP d a.ez.dH.length with
 |false=>
  have L:=pY u;have x:jl a h d=-1:=KR 0 λI D F=>by have:=l.hw.pL D;rw[F,u]at this;simp at this
  by_cases B:d<0
  ·simp[f98,o,p,f,B,x]
  ·simp[f98,o,p,f,B,show(a.ez.dH.length:Int)<=d by omega,x]
 |true=>
  have⟨M,N⟩:=eQ.1 u;simp[f98,o,p,f,show¬d<0 by omega,show¬(a.ez.dH.length:Int)<=d by omega];refine fk a.dJ.length J (λm e i=>hU 2 i/\i.get 0=some (dE 15 0 [a.t])/\i.get 1=some (dE 9 0 [h.t])/\dF e 2 (Z d)/\dF e 3 (.ptr 0 0 0 0)/\dF e 4 (.ptr 1 0 0 0)/\dF e 20 (sl (a.dJ.map ej.t))/\dF e 21 (Z a.dJ.length)/\dF e 22 (Z m)/\uA d h.order (a.dJ.drop m) m=jl a h d) ?_ ?_ J ⟨⟨dy,dy,dy⟩,dy,dy,by simp[f,jl]⟩
  ·rintro m e i z C ⟨g,v,n,f,w,r,q,j,k,c⟩;rw[aH z]at c;simp only[uA]at c;have G:=g.ne (b:=0) J;have A:=g.ne (b:=1) J;simp[n,f,r,q,j,k,z,A,g.low,oY,E];refine ee (λs=>?_) (λs=>?_)
   ·rw[aq (by simpa using s)]at c;simp[g.hp,<-c]
   ·rw[ao (by simpa using s)]at c;simp[v,n,f,w,r,q,j,k,C,g.cons,c,G,A]
  ·rintro e i ⟨g,v,n,f,w,r,q,j,k,c⟩;rw[bO]at c;simp only[uA]at c;simp[j,k,g.hp,<-c]
def Sr{d:fy}(ht:d.p 98=some wy)(b:dR)(a:eK)(c:Int)(e:t8 b a):rl prog cx d 98 [b.t,a.t,Z c]=some (Z (jl b a c)):=gu ht T9 (b,a,c) e
end
end
noncomputable section
open Go Go.TI
def Hw{c:dZ}{b a:fH}(d:lA c b=true)(hl:a.ei.length=b.ei.length/\a.done.length=b.done.length/\a.dH.length=b.dH.length):lA c a=true:=by
 unfold lA at*
 rw[hl.1,hl.2.1,hl.2.2];exact d
def xc.up{c b:Nat}{e:dR}{d:eK}(a:xc c e d)(h:c<=b):xc b e d:=⟨a.fx,a.wk,a.ce,a.fu,a.ft,λf g=>by have:=a.rd f g;omega,a.BS,by have:=a.od;omega⟩
def xc.go{f:Nat}{c:dR}{d:eK}(a:xc f c d)(i:Int)(e:ej)(g h:Int):xc (f+1) c (DV c d i e g h):=by
 have hl:=vH c.ez d.fj g e.kind e.obj h;refine⟨?_,?_,λb=>?_,λb=>?_,λb=>Hw (a.ft b) ⟨hl.1,hl.2.1,hl.2.2⟩,Gk a.rd _ _ _ _ _,vI a.BS _ _ _ _ _,?_⟩
 ·have:=a.fx;simp only[DV];grind
 ·have:=a.wk;simp only[DV];grind
 ·have:=a.ce b;simp only[DV];grind
 ·have:=a.fu b;simp only[DV];grind
 ·have:=a.od;simp only[DV,aS,aT,cQ];omega
def xc.step{c:Nat}{a:dR}{b:eK}(e:xc c a b)(d:gF)(f:ju a b d.dP=true):xc (c+1) a (uU a b d).1:=by
 unfold uU;rw[aq f];exact e.go _ _ _ _
def xc.start{w:dR}(h:kl w):xc 1000 w (lU w):=by
 have c:w.dJ≠ []->mH w.ez w.jG=true:=λa=>by
  have⟨d,e,b⟩:=List.exists_cons_of_ne_nil a;have hr:=h.ok.run;unfold runs at hr;rw[b]at hr;simp only[rD,ax]at hr;exact(pX hr.1).1
 refine⟨by simp[lU],by simp[lU],λa=>?_,λa=>?_,λa=>?_,h.sm.r,h.ok.BS,by simp[lU]⟩
 all_goals
  have:=c a;unfold mH at this;simp only[ax,aI]at this;simp[lU,this]
def ae5(a:Int): -9223372036854775808<=IntKind.i64.wrap a/\IntKind.i64.wrap a<9223372036854775808:=by
 simp only[IntKind.wrap,IntKind.bits,IntKind.signed];by_cases b:a% 2^64>=(2:Int)^(64-1)<;>simp<;>omega
def LQ{a:Int}(b: -9223372036854775808<=a)(c:a<9223372036854775808):IntKind.i64.wrap a=a:=by rw[<-jE,jK b c]
def tS(b:Int):List ej->Nat->List Int
 | [],_=>[]
 |e::c,a=>if e.dP=b then(a:Int)::tS b c (a+1)else tS b c (a+1)
def Df(d:Int):∀(a:List ej) (b:Nat),(tS d a b).length<=a.length:=by
 intro a;induction a with
 |nil=>intro b;simp[tS]
 |cons e a c=>intro b;have:=c (b+1);simp only[tS,aT];split<;>simp<;>omega
def Ql(d:Int):∀(a c:List ej) (b:Nat),tS d (a++c) b=tS d a b++tS d c (b+a.length):=by
 intro a;induction a with
 |nil=>intro c b;rfl
 |cons f a e=>
  intro c b;simp only[cE,tS,e,aT];rw[show b+1+a.length=b+(a.length+1)by omega];split<;>rfl
def Qk{t:Int}:∀{l:List ej} {i:Nat} {x:Int},x∈tS t l i->∃a:Nat,x=(i+a:Nat)/\a<l.length:=by
 intro l;induction l with
 |nil=>intro i x h;simp[tS]at h
 |cons c l d=>
  intro i x h;simp only[tS]at h;have b:x∈tS t l (i+1)->∃a:Nat,x=(i+a:Nat)/\a<(c::l).length:=λh=>by
   have⟨a,e,f⟩:=d h;exact⟨a+1,J,dz⟩
  split at h
  ·rcases List.mem_cons.1 h with h|h
   ·exact⟨0,J,dy⟩
   ·exact b h
  ·exact b h
def IR(f:Int):∀(b:List ej) (c:Nat) (a:Int),0<=a->a<9223372036854775808->vf f b c a=(tS f b c).getD a.toNat (-1):=by
 intro b;induction b with
 |nil=>intro c a _ _;simp[vf,tS]
 |cons i b e=>
  intro c a g h;simp only[vf,tS];split
  ·split
   ·rename_i d;subst d;simp
   ·rename_i d;rw[LQ J J,e _ _ J J,show a.toNat=(a-1).toNat+1 by omega];simp
  ·exact e _ _ g h
def Rk(d:Int):∀(a:List ej) (c:Nat) (b:Int),a.length<=1000000->-9223372036854775808<=b->b<0->vf d a c b=-1:=by
 intro a;induction a with
 |nil=>intro c b _ _ _;simp[vf]
 |cons j a e=>
  intro c b f g h;simp only[aT]at f;simp only[vf];split
  ·rw[ao J];by_cases i:b=-9223372036854775808
   ·subst i;have:IntKind.i64.wrap (-9223372036854775808-1)=9223372036854775807:=dB;have hl:=Df d a (c+1);rw[this,IR d a _ _ J J,cS,bQ J];rfl
   ·rw[LQ J J];exact e _ _ J J J
  ·exact e _ _ J g h
def kl.cnt{a:dR}(b:kl a)(d:a.dJ≠ []):a.jG.count.length=a.ez.dH.length:=by
 have⟨e,f,c⟩:=List.exists_cons_of_ne_nil d;have hr:=b.ok.run;unfold runs at hr;rw[c]at hr;simp only[rD,ax]at hr;have:=(pX hr.1).1;unfold mH at this;simp only[ax,aI]at this;exact this.2
end
noncomputable section
open Go Go.TI Tryz
attribute [-simp] List.map_take List.map_drop List.map_append fw eY eg Bool.not_or Bool.not_and
attribute [simp] fq eZ
section
attribute [-simp] size_cons
def xq:fP:=⟨dR×eK×Int×List Int,λa=>[a.1.t,a.2.1.t,Z a.2.2.1,sl (a.2.2.2.map (T.int .i64))],λa=>t8 a.1 a.2.1/\a.1.dJ≠ []/\a.2.2.2.length<=1000000,λa=> .bool (mZ a.1 a.2.1 a.2.2.1 a.2.2.2),λa c b=>by simp at b;rw[show a=c from aC (dR.inj b.1) (aC (eK.inj b.2.1) (aC b.2.2.1 (jz dy b.2.2.2)))]⟩
def QV:xq.Ok prog cx 139:=by
 refine fM [] (iQ 633825300270344703797589335871 [] func139) (λa=>1000005) (by simp[xq]) ?_;rintro⟨c,g,t,l⟩ ⟨V,a8,hl⟩ d aN;simp only at V a8 hl;simp[xq]at aN|-;obtain⟨O,z,p,m⟩:=aN;have cp:=V.hw.cnt a8;have cy:=V.hw.ok.len;cases l with
 |nil=>
  have:mZ c g t []=true:=by unfold mZ;split<;>simp
  simp[f139,O,z,m,this]
 |cons a0 l0=>
 have bB:decide ((a0::l0).length=0)=false:=dy;generalize a0::l0=l at*
 have X:decide (l=[])=false:=by cases l<;>simp at bB|-
 cases K:iP t c.jG.count.length with
 |false=>
  have S:mZ c g t l=false:=by unfold mZ;rw[nQ K];exact X
  have cL:=pY K;by_cases w:t<0
  ·simp[f139,O,z,p,m,X,S,show decide (t<0)=true by simpa using w]
  ·simp[f139,O,z,p,m,X,S,show decide (t<0)=false by simpa using w,show decide ((c.ez.dH.length:Int)<=t)=true by simp;omega]
 |true=>
 have⟨first,bs,bu⟩:=iD K;have b6:=em (eQ.1 K).1;have S:mZ c g t l=l.all (yH c g.fixed t first):=by unfold mZ;rw[bu]
 have⟨c1,c4⟩:=eQ.1 K;simp[f139,O,z,p,m,X,S,b6,bs,show decide (t<0)=false by simp;omega,show decide ((c.ez.dH.length:Int)<=t)=false by simp;omega,show decide ((c.jG.count.length:Int)<=t)=false by simp;omega];refine fk c.dJ.length J (λi d o=>∃v,Gr o v 1 (gG (tS t (c.dJ.take i) 0))/\(∀b,dS v=some b->2<=b)/\hU 2 o/\o.get 0=some (dE 15 0 [c.t])/\o.get 1=some (dE 9 0 [g.t])/\dF d 2 (Z t)/\dF d 3 (sl (l.map (T.int .i64)))/\dF d 5 (.ptr 1 0 0 0)/\dF d 9 (Z first)/\dF d 10 v/\dF d 43 (sl (c.dJ.map ej.t))/\dF d 44 (Z c.dJ.length)/\dF d 45 (Z i)) ?_ ?_ J ⟨dD,Gr.nil _ _,dy,⟨dy,dy,dy⟩,dy,dy,by simp[p,m]⟩
 ·rintro i d o L I ⟨v,y,N,n,Y,B,p,m,q,j,k,P,D,E⟩;have aX:=Df t (c.dJ.take i) 0;rw[List.length_take]at aX;have A:=Ql t (c.dJ.take i) [c.dJ[i]] 0;rw[<-aR L,List.length_take,cw J]at A;simp only[tS]at A;generalize tS t (c.dJ.take i) 0=s at*
  have an:=n.cons (dE 7 1 [c.dJ[i].t]);have aE:Gr (o.cons (dE 7 1 [c.dJ[i].t])) v 1 (gG s):=y.mono λb R=>by
   have⟨_,_,_,_,w,_⟩:=y.box R;rw[dT,ao (by have:=H.fa w;omega)]
  have bT:=n.ne (b:=0) J;have bX:=n.ne (b:=1) J;simp[p,P,D,E,L,n.low];refine ee (λu=>?_) (λu=>?_)
  ·rw[aq (by simpa using u)]at A;have⟨c9,C,av,b9⟩:=aE.lP (cx:=cx) (f:=T.int .i64) (an.Xa (aw _)) jQ rfl mz rfl dy (λ_=>rfl) (i:Int) dz;obtain⟨a1,a2,a3,a4⟩:=b9;simp at av;have c6:=an.sz;have aA:∀b,b<2->C.get b=o.get b:=λb R=>(a2 b J λw=>by have:=N b w;omega).trans (by rw[dT,ao (by have:=n.sz;omega)]);simp[p,m,q,j,k,P,D,E,I,av];exact⟨_,by rw[A];simpa using a1,λb R=>(a3 b R).elim (N b) λw=>by omega,⟨a4.hp,a4.low,by have:=a4.sz;omega⟩,(aA 0 J).trans Y,(aA 1 J).trans B,rfl⟩
  ·rw[ao (by simpa using u)]at A;simp[p,m,q,j,k,P,D,E,I,bT,bX,Y,B];exact⟨_,by rw[A];simpa using aE,N,an,rfl⟩
 ·rintro d o ⟨v,y,N,n,Y,B,p,m,q,j,k,P,D,E⟩;rw[aK]at y;have aX:=Df t c.dJ 0;have bC:=λx=>Qk (t:=t) (l:=c.dJ) (i:=0) (x:=x);have own:∀h:Int,-9223372036854775808<=h->h<9223372036854775808->vf t c.dJ 0 h=if 0<=h then(tS t c.dJ 0).getD h.toNat (-1)else-1:=λh bS M=>by
   split
   ·exact IR t _ _ _ J M
   ·exact Rk t _ _ _ J bS J
  generalize tS t c.dJ 0=s at*
  simp[m,D,E];refine fk l.length J (λr d C=>C=o/\dF d 5 (.ptr 1 0 0 0)/\dF d 9 (Z first)/\dF d 10 v/\dF d 59 (sl (l.map (T.int .i64)))/\dF d 60 (Z l.length)/\dF d 61 (Z r)/\(l.drop r).all (yH c g.fixed t first)=l.all (yH c g.fixed t first)) ?_ ?_ J (by simp[q,j,k])
  ·rintro r d C L I ⟨rfl,q,j,k,Q,F,G,e⟩;rw[aH L,bZ]at e;simp[j,Q,F,G,L];refine ee (λu=>?_) (λu=>?_)
   ·have:yH c g.fixed t first l[r]=true:=by unfold yH;rw[u];rfl
    rw[this,aU]at e;simp[q,j,k,Q,F,G,I,e]
   have bH:yH c g.fixed t first l[r]=vP g.fixed (vf t c.dJ 0 (IntKind.i64.wrap (l[r]-first))):=by unfold yH;rw[u];rfl
   have⟨b7,b8⟩:=ae5 (l[r]-first);rw[bH,own _ b7 b8]at e;have U:=λz=>y.len (cx:=cx) z pS _ rfl;simp at U;have W:=qX .i64 l[r] first
   generalize IntKind.i64.wrap (l[r]-first)=h at*
   have a6:vP g.fixed (-1)=false:=rfl;cases p1:decide (h<0)with
   |true=>
    rw[ao (by simp at p1;omega),a6,da]at e;simp[j,W,p1,n.hp,<-e]
   |false=>
   have al:0<=h:=by simpa using p1
   rw[aq al]at e;cases p2:decide ((s.length:Int)<=h)with
   |true=>
    have:s.getD h.toNat (-1)=-1:=by rw[cS,bQ (by simp at p2;omega)];rfl
    rw[this,a6,da]at e;simp[j,k,W,p1,p2,U,n.hp,<-e]
   |false=>
   have M:h.toNat<s.length:=by simp at p2;omega
   have⟨x,a7,bN⟩:=bC s[h.toNat] (aD M);have ae:x<g.fixed.length:=by rw[V.hc.fx];exact bN
   have:s.getD h.toNat (-1)=x:=by rw[cS,az M];simpa using a7
   rw[this,show vP g.fixed x=g.fixed[x]by simp[vP,uR,ae]]at e;have⟨b,ca,dd,cb,de,c7,bi,bn,ap⟩:=y.B0 (te:=Ev) rfl (i:=h.toNat) (by simpa using M);simp[a7]at ap;have p3:decide (g.fixed.length<=x)=false:=dz;cases p4:g.fixed[x]
   ·rw[p4,da]at e;simp[q,j,k,W,p1,p2,p3,p4,U,em al,bi,bn,ap,B,ae,n.hp,<-e]
   ·rw[p4,aU]at e;simp[q,j,k,Q,F,G,W,p1,p2,p3,p4,U,em al,bi,bn,ap,B,ae,I,e]
  ·rintro d C ⟨rfl,q,j,k,Q,F,G,e⟩;rw[bO]at e;simp at e;simp[F,G,n.hp];simpa using e
def Vc{e:fy}(ht:e.p 139=some xq)(a:dR)(b:eK)(d:Int)(c:List Int)(f:t8 a b)(g:a.dJ≠ [])(hl:c.length<=1000000):rl prog cx e 139 [a.t,b.t,Z d,sl (c.map (T.int .i64))]=some (.bool (mZ a b d c)):=gu ht QV (a,b,d,c) ⟨f,g,hl⟩
def us:fP:=⟨dR×eK×Int,λa=>[a.1.t,a.2.1.t,Z a.2.2],λa=>t8 a.1 a.2.1/\iP a.2.2 a.1.ez.dH.length=true,λa=> .bool (ju a.1 a.2.1 a.2.2),λa c b=>by simp at b;rw[show a=c from aC (dR.inj b.1) (aC (eK.inj b.2.1) b.2.2)]⟩
def KL:us.Ok prog cx 97:=by
 refine fM [(98,wy),(112,nJ),(139,xq)] (iQ 16863 [] func97) (λC=>5) (by simp[us]) ?_;rintro⟨w,a,t⟩ ⟨c,h⟩ F n;simp only at c h;simp[us]at n|-;obtain⟨j,l,m⟩:=n;have hE:=ju.eq_1 w a t;generalize ju w a t=B at*
 have r:=λ{e:fy} (ht:e.p 98=some wy)=>Sr ht w a t c;by_cases d:jl w a t<0
 ·rw[aq d]at hE;simp[f97,j,l,m,r,d,hE]
 ·rw[ao d]at hE;have f:=uB d;have⟨b,g,u,D,E,i⟩:=c.hw.at f;rw[qn (eQ.1 f).1 g]at hE;have z:=c.hw.ev b (ay g);have x:w.ez.gJ.length<=1000000:=by have:=lx c.hw.wb;omega
  have q:=c.hc.ft (rh f);have y:=λ{e:fy} (ht:e.p 112=some nJ)=>Gi ht (w:=w.ez) (s:=a.fj) (t:=t) (k:=b.kind) (o:=b.obj) ⟨q,h,i,x,c.hc.rd⟩;have A:=λ{e:fy} (ht:e.p 139=some xq)=>Vc ht w a t b.mt c (rh f) z.1;have v:js w.ez a.fj t b.kind b.obj=yU w.ez a.fj t b.kind b.obj:=by unfold js;rw[q,h,i];rfl
  rw[v]at hE;simp[f97,j,l,m,r,d,g,u,y,A,hE]
def ON{d:fy}(ht:d.p 97=some us)(a:dR)(b:eK)(c:Int)(e:t8 a b)(f:iP c a.ez.dH.length=true):rl prog cx d 97 [a.t,b.t,Z c]=some (.bool (ju a b c)):=gu ht KL (a,b,c) ⟨e,f⟩
