/- W16e -/
import Derived.Test.YtajpdafdickapaaGreatDoorA12
set_option linter.all false
set_option maxRecDepth 100000
set_option maxHeartbeats 8000000
namespace Go.Proofs.YtajpdafdickapaaGreatDoor
noncomputable section
open Go Go.TI Tryz
attribute [-simp] List.map_take List.map_drop List.map_append fy fa eg Bool.not_or Bool.not_and
attribute [simp] fw fc
def KJ(b:List ez):Prop:=∀a∈b,a.mo.length<=1000000/\a.uF.length<=1000000
def Qz(b:Prop)(c:T):Prop:=∃d a:Int,c= .tuple [Z d,Z a]/\(a=0↔b)
def uu(c:Prop)(e b:Int):Qz c (.tuple [Z e,Z b])=(b=0↔c):=by
 unfold Qz;apply propext;constructor
 ·rintro⟨f,g,d,a⟩;simp at d;rw[d.2];exact a
 ·exact λa=>⟨e,b,rfl,a⟩
def kV{a:dY}(b:j8 a=true):a.cells.length<=12/\a.ei.length<=4/\a.gF.length<=2/\a.ee.length<=2/\a.iJ.length<=60/\a.dH.length<=4:=by
 unfold j8 sY at b;simp only[aB,aO]at b;omega
def FI:nS prog cx 43 (λo:km=>[o.t]) (λo=>KJ o.dL/\o.dL.length<=1000000) (λo=>Qz (qj o.em o.dL=true)):=by
 refine jh [(81,yg),(39,qt),(80,nC),(92,uk)] (iX 9223372036871623167 [] func43) (λ_=>1000) (λj b f=>by simp at f;exact km.inj f) ?_;rintro⟨a,c⟩ ⟨M,hl⟩ s L;simp only at M hl;simp at L;simp[f43,L];refine ej (λG=>?_) (λG=>?_)
 ·simp[uu];simp at G;unfold qj;rw[aM J];simp
 simp at G;simp[Ab];refine ej (λz=>?_) (λz=>?_)
 ·simp[uu];simp at z;unfold qj;rw[show j8 a=false by simpa using z];simp
 have N:j8 a=true:=by simpa using z
 have⟨X,Y,ae,al,an,ap⟩:=kV N;simp[Er,show a.ei.length<=1000000 by omega,show a.ee.length<=1000000 by omega,show a.dH.length<=1000000 by omega,show a.cells.length<=1000000 by omega];have T:qj a c=Hj (qA a) Sg (kj a) [] (jU a) c:=by unfold qj;rw[N,aV J];simp
 rw[T];refine fD c.length J (λe s f=>∃C i,sO e i/\Hj (qA a) Sg (kj a) [] (jU a) c=Hj (qA a) Sg (kj a) (c.take e) i (c.drop e)/\il 2 f/\f.get 0=some (dE 7 0 [km.t ⟨a,c⟩])/\f.get 1=some (dE 7 C [i.t])/\dF s 1 (.ptr 0 0 0 0)/\dF s 4 (.ptr 1 0 0 0)/\dF s 5 (Z e)) ?_ ?_ J ?_
 ·rintro e s f y S ⟨C,i,H,g,h,l,D,r,F,m⟩;have v:=h.ne (b:=0) J;have O:=h.ne (b:=1) J;have n:=M c[e] (aF y);rw[aI y,Hj]at g;have V:c.take (e+1)=c.take e++[c[e]]:=aQ y;simp[l,D,r,F,m,y,v,O,h.low];generalize c[e]=d at*
  have q:=λ{I:fJ} (ht:I.p 80=some nC)=>Cy ht a i d J (H.up J) n.1 n.2;have E:=λ{I:fJ} (ht:I.p 92=some uk) (P:List Int) (U:P.length<=1000000)=>Rs ht c e d.dP P J J U;have K:(f.size=0)=False:=by have:=h.sz;simp;omega
  have A:∀j b k,dZ ((f.cons j).cons b) (f.size+1) k=(f.cons j).cons k:=λj b k=>H3 _ _ _ _ rfl (by have:=h.low;simp;omega);cases w:qA a i d with
  |false=>
   rw[lI w]at q;rw[w]at g;simp[m,h.hp,A,q,uu,g]
  |true=>
   rw[show jO a i d=(kj a i d,true)by unfold jO;rw[ar w]]at q;cases x:we (c.take e) d.dP d.mo with
   |false=>
    have:Sg (c.take e) d=false:=by unfold Sg;rw[x];rfl
    rw[this]at g;simp[l,r,m,v,h.hp,A,K,q,E,n.1,uu,g,x]
    |true=>
    cases B:we (c.take e) d.dP d.uF with
    |false=>
     have:Sg (c.take e) d=false:=by unfold Sg;rw[B];simp
     rw[this]at g;simp[l,r,m,v,h.hp,A,K,q,E,n.1,n.2,uu,g,x,B]
      |true=>
     have:Sg (c.take e) d=true:=by unfold Sg;rw[x,B];rfl
     rw[this,w]at g;have Q:=H.step a d;rw[show jO a i d=(kj a i d,true)by unfold jO;rw[ar w]]at Q;simp[l,D,r,F,m,v,O,A,K,q,E,n.1,n.2,x,B,S];have R:∀j b k u,(dZ ((f.cons j).cons b) 1 k).get u=if u=1 then some k else((f.cons j).cons b).get u:=λj b k u=>mL (by simp[h.hp]) dy k u;refine⟨C+1,kj a i d,Q,by rw[V];simpa using g,((h.cons _).cons _).put _ _,?_,?_⟩<;>rw[R]
     ·have W:(0=f.size+1)=False:=dy;simp[l,v]
     ·simp
 ·rintro s f ⟨C,i,H,g,h,l,D,r,F,m⟩;simp[Hj]at g;simp[l,r,m,g,uu,h.hp]
 ·exact⟨1,jU a,uK a J,dy,⟨dy,dy,dy⟩,dy⟩
end
noncomputable section
open Go Go.TI
def Jo(c:Nat)(d:fq):Prop:=∀b∈d.ei,∀a∈b.ew,0<=a/\a<c
def Jo.pw{b:Nat}{c:fq}(f:Jo b c){i:Int}{d:dR->dR}(g:∀a∈c.ei,∀e∈(d a).ew,0<=e/\e<b):Jo b (c.pw i d):=by
 intro a hl;unfold fq.pw at hl;rcases mem_modify hl with j|⟨k,h,rfl⟩
 ·exact f a j
 ·exact g k h
def EA{f:Nat}{k:fq}(b:Jo f k)(q:dY){g:Int}(ht:0<=g/\g<f)(n o r:Int):Jo f (eY q k g n o r).1:=by
 have m:∀(d:Int) (c:dR->dR),(∀a,(c a).ew=a.ew\/(c a).ew=lK a.ew g\/(c a).ew=a.ew.filter λj=> !decide (j=g))->Jo f (k.pw d c):=λd c h=>b.pw λa hl l i=>by
  rcases h a with e|e|e<;>rw[e]at i
  ·exact b a hl l i
  ·rcases DI i with p|rfl
   ·exact b a hl l p
   ·exact ht
  ·exact b a hl l (List.mem_filter.1 i).1
 exact vl (P:=λj=>Jo f j.1) b b (λ_ _ _=>b) (λd c h=>⟨m d c h,λ_ _=>m d c h⟩) (λ_=>b) (λ_ _=>b) (λ_=>b)
def My{b:dY}{e:Nat}(j:b.dH.length<=e):∀(c:List ez) (a:eQ),runs b a c=true->Jo e a.fj->Jo e (qM b a c).fj:=by
 intro c;induction c with
 |nil=>intro a _ f;exact f
 |cons d c h=>
  intro a hr f;have hr:(qA b a d&&runs b (kj b a d) c)=true:=hr;rw[aB]at hr;have g:=rN a d hr.1;show Jo e (qM b (jO b a d).1 c).fj;rw[g];have⟨_,i,_⟩:=oJ hr.1;have:=eZ.1 i;exact h _ hr.2 (EA f b J _ _ _)
def Jo.len{b:Nat}{c:fq}(d:Jo b c)(e:c.BB):∀a∈c.ei,a.ew.length<=b:=λa hl=>by
 have:=Mw a.ew 0 b (e a hl) (d a hl);omega
def vZ(a:Nat)(b:dY):Jo a (jU b).fj:=by
 intro c hl;unfold jU lx at hl;simp only[List.mem_map]at hl;obtain⟨_,_,rfl⟩:=hl;simp
end
noncomputable section
open Go Go.TI Tryz
attribute [-simp] List.map_take List.map_drop List.map_append fy fa eg Bool.not_or Bool.not_and
attribute [simp] fw fc
section
attribute [-simp] size_cons
def RU{c:dY}{d:eQ}{b:List ez}{a:Nat}(e:a<b.length):qM c d (b.drop a)=qM c (jO c d b[a]).1 (b.drop (a+1)):=by
 rw[aI e];rfl
def uq:gG:=⟨km×Nat,λa=>[a.1.t,Z a.2],λa=>j8 a.1.em=true/\KJ a.1.dL/\a.2<=a.1.dL.length/\a.1.dL.length<=1000,λa=>(qM a.1.em (jU a.1.em) (a.1.dL.take a.2)).t,λa c b=>by
 simp at b;rw[km.inj b.1,show a.2=c.2 by omega]⟩
structure lO(w:dW):Prop where
 ok:x8 w
 wb:j8 w.em=true
 sm:sO 1000 w.jF
 ev:KJ w.dL
 rdt:Jo 4 w.jF.fj
def ND:uq.Ok prog cx 44:=by
 refine fZ [(39,qt),(80,nC)] (iX 4215 [] func44) (λ_=>2000) (by simp[uq]) ?_;rintro⟨⟨a,i⟩,k⟩ ⟨B,y,H,hl⟩ g x;simp only at B y H hl;simp[uq]at x|-;obtain⟨E,j⟩:=x;have⟨P,Q,R,S,T,U⟩:=kV B;simp[f44,E,Er,show a.ei.length<=1000000 by omega,show a.ee.length<=1000000 by omega,show a.dH.length<=1000000 by omega,show a.cells.length<=1000000 by omega];refine fD k J (λe g d=>∃l f,sO e f/\qM a f ((i.take k).drop e)=qM a (jU a) (i.take k)/\il 3 d/\d.get 0=some (dE 7 0 [km.t ⟨a,i⟩])/\d.get 1=some (dE 7 0 [.agg [dD,Z 0,dD,dD,dD,dD,dD]])/\d.get 2=some (dE 7 l [f.t])/\dF g 1 (Z k)/\dF g 2 (.ptr 0 0 0 0)/\dF g 4 (.ptr 1 0 0 0)/\dF g 5 (.ptr 2 0 0 0)/\dF g 6 (Z e)) ?_ ?_ J ?_
 ·rintro e g d G F ⟨l,f,u,h,c,m,n,o,j,w,q,r,s⟩;have M:=c.ne (b:=0) J;have N:=c.ne (b:=1) J;have O:=c.ne (b:=2) J;have A:e<i.length:=J;have z:=y i[e] (aF A);rw[RU dz,List.getElem_take]at h;have C:=λ{I:fJ} (ht:I.p 80=some nC)=>Cy ht a f i[e] J (u.up J) z.1 z.2;simp[m,o,j,w,q,r,s,A,C,G,F];have L:2<d.size:=by have:=c.sz;omega
  refine⟨l+1,(jO a f i[e]).1,u.step a _,h,c.put _ _,?_,?_,?_⟩<;>rw[mL c.hp L]<;>simp[m,n]
 ·rintro g d ⟨l,f,u,h,c,m,n,o,j,w,q,r,s⟩;rw[List.drop_eq_nil_of_le dz]at h;have K:1<d.size:=by have:=c.sz;omega
  have D:∀v,(dZ d 1 v).get 1=some v:=λv=>by rw[mL c.hp K];simp
  have h:f=_:=h;rw[<-h];simp[j,q,r,s,o,n,D,c.hp]
 ·exact⟨1,jU a,uK a J,dy,by exact⟨dy,dy,dy⟩,by simp[j]⟩
def Fo:gG:=⟨dW×Int×Int,λa=>[a.1.t,Z a.2.1,Z a.2.2],λa=>a.1.dL.length<=1000000,λa=> Z (uV a.2.1 a.1.dL 0 a.2.2),λa c b=>by simp at b;rw[show a=c from aC (dW.inj b.1) (aC b.2.1 b.2.2)]⟩
def WL:Fo.Ok prog cx 94:=by
 refine fZ [] (iX 20975823 [] func94) (λv=>v.1.dL.length+5) (by simp[Fo]) ?_;rintro⟨m,p,u⟩ hl c q;simp[Fo]at hl q|-;obtain⟨w,d,e⟩:=q;simp[f94,w];refine fD m.dL.length J (λk c j=>∃l,il 1 j/\j.get 0=some (dE 15 0 [m.t])/\dF c 1 (Z p)/\dF c 2 (Z l)/\dF c 3 (.ptr 0 0 0 0)/\dF c 7 (Z k)/\uV p (m.dL.drop k) k l=uV p m.dL 0 u) ?_ ?_ J ⟨u,⟨dy,dy,dy⟩,by simp[d,e]⟩
 ·rintro k c j s r ⟨l,g,h,d,e,i,f,a⟩;have x:=g.ne (b:=0) J;rw[aI s]at a;simp only[uV]at a;simp[h,d,i,f,s];refine ej (λn=>?_) (λn=>?_)
  ·rw[ar (by simpa using n)]at a;simp[e];refine ej (λo=>?_) (λo=>?_)
   ·rw[ar (by simpa using o)]at a;simp[f,g.hp,<-a]
   ·rw[aq (by simpa using o)]at a;simp[h,d,e,i,f,r,qS,g,a]
  ·rw[aq (by simpa using n)]at a;simp[h,d,e,i,f,r,g,a]
 ·rintro c j ⟨l,g,h,d,e,i,f,a⟩;rw[bO]at a;simp only[uV]at a;simp[h,i,f,g.hp,<-a]
def acu{d:fJ}(ht:d.p 94=some Fo)(a:dW)(c b:Int)(hl:a.dL.length<=1000000):rl prog cx d 94 [a.t,Z c,Z b]=some (Z (uV c a.dL 0 b)):=im ht WL (a,c,b) hl
def oh:gG:=⟨dW×eK×Int,λa=>[a.1.t,a.2.1.t,Z a.2.2],λa=>a.1.dL.length<=1000000/\a.2.1.order.length<=1000000,λa=> Z (fM a.1 a.2.1 a.2.2),λa c b=>by simp at b;rw[show a=c from aC (dW.inj b.1) (aC (eK.inj b.2.1) b.2.2)]⟩
def PZ:oh.Ok prog cx 12:=by
 refine fZ [(31,C6)] (iX 536875231 [] func12) (λv=>v.1.dL.length+5) (by simp[oh]) ?_;rintro⟨l,i,m⟩ ⟨hl,y⟩ c p;simp only at hl y;simp[oh]at p|-;obtain⟨w,x,b⟩:=p;simp[f12,w,x];refine fD l.dL.length J (λf c j=>il 2 j/\j.get 0=some (dE 15 0 [l.t])/\j.get 1=some (dE 9 0 [i.t])/\dF c 2 (Z m)/\dF c 3 (.ptr 0 0 0 0)/\dF c 4 (.ptr 1 0 0 0)/\dF c 7 (Z f)/\rn m i.order (l.dL.drop f) f=fM l i m) ?_ ?_ J ⟨⟨dy,dy,dy⟩,dy,dy,by simp[b,fM]⟩
 ·rintro f c j q o ⟨g,d,h,b,e,k,n,a⟩;rw[aI q]at a;simp only[rn]at a;cases s:decide (l.dL[f].dP=m)<;>cases u:decide ((f:Int)∈i.order)
  all_goals
   have r:=s;have p2:=u;simp only[aO,bU]at r p2;simp only[r,p2]at a;simp at a;simp[d,h,b,e,k,n,q,s,u,RC,show i.order.length<=1099511627776 by omega]
  ·simp[d,h,b,e,k,o,g,a]
  ·simp[d,h,b,e,k,o,g,a]
  ·simp[g.hp,<-a]
  ·simp[d,h,b,e,k,o,g,a]
 ·rintro c j ⟨g,d,h,b,e,k,n,a⟩;rw[bO]at a;simp only[rn]at a;simp[d,e,n,g.hp,<-a]
def CA{d:fJ}(ht:d.p 12=some oh)(b:dW)(a:eK)(c:Int)(hl:b.dL.length<=1000000)(e:a.order.length<=1000000):rl prog cx d 12 [b.t,a.t,Z c]=some (Z (fM b a c)):=im ht PZ (b,a,c) ⟨hl,e⟩
def QG(e:Int)(d:List Int):∀(b:List ez) (a:Nat),rn e d b a<(a+b.length:Nat):=by
 intro b;induction b with
 |nil=>intro a;simp[rn];omega
 |cons f b c=>
  intro a;have g:=c (a+1);simp only[rn,aU];split<;>omega
def oK{a:dW}{b:eK}{c:Int}(d:¬fM a b c<0):iN (fM a b c) a.dL.length=true:=by
 have:=QG c b.order a.dL 0;rw[eZ];unfold fM at*;omega
def oH:gG:=⟨dW×eK×Int×List Int,λa=>[a.1.t,a.2.1.t,Z a.2.2.1,sl (a.2.2.2.map (T.int .i64))],λa=>a.1.dL.length<=1000000/\a.2.2.2.length<=1000000,λa=> .bool (mT a.1 a.2.1 a.2.2.1 a.2.2.2),λa c b=>by simp at b;rw[show a=c from aC (dW.inj b.1) (aC (eK.inj b.2.1) (aC b.2.2.1 (jx dy b.2.2.2)))]⟩
def Kc:oH.Ok prog cx 48:=by
 refine fZ [(94,Fo)] (iX 2361183242534469502783 [] func48) (λL=>L.2.2.2.length+5) (by simp[oH]) ?_;rintro⟨d,b,c,l⟩ ⟨hl,O⟩ j G;simp only at hl O;simp[oH]at G|-;obtain⟨B,C,e,f⟩:=G;cases w:iN c d.jF.count.length with
 |false=>
  have z:mT d b c l=decide (l=[]):=by unfold mT;rw[nM w]
  have U:=pQ w;have S:decide (l.length=0)=decide (l=[]):=by cases l<;>simp
  cases E:decide (c<0)
  ·have Q:decide ((d.jF.count.length:Int)<=c)=true:=by simp at E;simp;omega
   simp[f48,B,C,e,f,E,Q,z]
  ·simp[f48,B,C,e,f,E,z]
 |true=>
  have⟨first,v,N⟩:=iD w;have y:=eG (eZ.1 w).1;have z:mT d b c l=l.all (yy d b.fixed c first):=by unfold mT;rw[N]
  have⟨V,W⟩:=eZ.1 w;simp[f48,B,C,e,show decide (c<0)=false by simp;omega,show decide ((d.jF.count.length:Int)<=c)=false by simp;omega,z];refine fD l.length J (λi j s=>il 2 s/\s.get 0=some (dE 15 0 [d.t])/\s.get 1=some (dE 9 0 [b.t])/\dF j 2 (Z c)/\dF j 3 (sl (l.map (T.int .i64)))/\dF j 4 (.ptr 0 0 0 0)/\dF j 5 (.ptr 1 0 0 0)/\dF j 9 (Z i)/\(l.drop i).all (yy d b.fixed c first)=l.all (yy d b.fixed c first)) ?_ ?_ J ⟨⟨dy,dy,dy⟩,dy,dy,by simp[e,f]⟩
  ·rintro i j s o H ⟨n,k,r,e,f,m,u,h,a⟩;rw[aI o,cd]at a;simp[k,e,f,m,h,o,y,v];refine ej (λD=>?_) (λD=>?_)
   ·have:yy d b.fixed c first l[i]=true:=by unfold yy;rw[D];rfl
    rw[this,aZ]at a;simp[k,r,e,f,m,u,h,H,n,a]
   have P:yy d b.fixed c first l[i]=vy b.fixed (uV c d.dL 0 (IntKind.i64.wrap (l[i]-first))):=by unfold yy;rw[D];rfl
   rw[P]at a;have A:=λ{R:fJ} (ht:R.p 94=some Fo)=>acu ht d c (IntKind.i64.wrap (l[i]-first)) hl;generalize uV c d.dL 0 (IntKind.i64.wrap (l[i]-first))=g at*
   cases q:decide (g<0)with
   |true=>
    have p3:g<0:=by simpa using q
    have:vy b.fixed g=false:=by unfold vy rf;rw[aq J];rfl
    rw[this]at a;simp at a;simp[k,e,f,m,h,o,y,v,qS,A,q,n.hp,a]
   |false=>
   have p3:¬g<0:=by simpa using q
   cases x:decide ((b.fixed.length:Int)<=g)with
   |true=>
    have p4:(b.fixed.length:Int)<=g:=by simpa using x
    have:vy b.fixed g=false:=by unfold vy;rw[nM (by unfold iN;simp;omega)];rfl
    rw[this]at a;simp at a;simp[k,r,e,f,m,u,h,o,y,v,qS,A,q,x,n.hp,a]
   |false=>
    have p4:¬(b.fixed.length:Int)<=g:=by simpa using x
    have⟨F,I,M⟩:=iD (l:=b.fixed) (i:=g) (by rw[eZ];omega);have:vy b.fixed g=F:=by unfold vy;rw[M];rfl
    rw[this]at a;have K:=eG (show 0<=g by omega);cases F
    ·simp at a;simp[k,r,e,f,m,u,h,o,y,v,qS,A,q,x,K,I,n.hp,a]
    ·simp only[aZ]at a;simp[k,r,e,f,m,u,h,o,y,v,qS,A,q,x,K,I,H,n,a]
  ·rintro j s ⟨n,k,r,e,f,m,u,h,a⟩;rw[bO]at a;simp at a;simp[f,h,n.hp];simpa using a
def F3{e:fJ}(ht:e.p 48=some oH)(b:dW)(c:eK)(d:Int)(a:List Int)(hl:b.dL.length<=1000000)(f:a.length<=1000000):rl prog cx e 48 [b.t,c.t,Z d,sl (a.map (T.int .i64))]=some (.bool (mT b c d a)):=im ht Kc (b,c,d,a) ⟨hl,f⟩
end
def aem(c:T):Prop:=∃(a:List dW) (b:Int),c= .tuple [sl (a.map dW.t),Z b]/\∀d∈a,lO d
def RH{d:fJ}(ht:d.p 44=some uq)(b:dY)(a:List ez)(c:Nat)(e:j8 b=true)(f:KJ a)(g:c<=a.length)(h:a.length<=1000):rl prog cx d 44 [km.t ⟨b,a⟩,Z c]=some (qM b (jU b) (a.take c)).t:=im ht ND (⟨b,a⟩,c) ⟨e,f,g,h⟩
def Su{w:dY}{b:List ez}(g:qj w b=true)(d:j8 w=true)(i:KJ b){e:Nat}(j:e<=16)(a:Nat):lO (xI w b e a):=by
 have⟨c,h,l⟩:=Aa g;have⟨m,n,o,p,q,r⟩:=kV d;refine⟨Ou c h j a,d,?_,λf k=>i f (bG (bF k)),My J _ _ (Au c a) (vZ 4 w)⟩;have:=(uK w J).qM (w:=w) (b.take a);exact this.up dz 
def FC:nS prog cx 17 (λh:km×Nat=>[h.1.t,Z h.2]) (λh=>KJ h.1.dL/\h.1.dL.length<=1000000/\1<=h.2/\h.2<=16) (λ_=>aem):=by
 refine jh [(43,FI.jv),(44,uq)] (iX 138478519 [(10,[(2,6),(6,8),(6,14),(6,17)])] func17) (λ_=>2000) (λh b g=>by simp at g;exact aC (km.inj g.1) (by have:=g.2;omega)) ?_;rintro⟨⟨e,c⟩,a⟩ ⟨w,hl,U,I⟩ l H;simp only at w hl U I;simp at H;obtain⟨O,k⟩:=H;obtain⟨_,⟨x,y,rfl,Y⟩,R⟩:=FI.use ⟨e,c⟩ ⟨w,hl⟩;simp[f17,O,R];refine ej (λK=>?_) (λK=>?_)
 ·simp;exact⟨[],12,rfl,dy⟩
 have q:qj e c=true:=Y.1 (by simpa using K);have L:j8 e=true:=by
  unfold qj at q;simp only[aB]at q;exact q.1.2
 have a7:c.length<=400:=(Aa q).2.2;simp[k,show¬(a:Int)<1 by omega,show¬(16:Int)<a by omega];generalize D:(c.length+(a-1))/a=o;have a6:o<=c.length+16:=by rw[<-D];exact aT (Nat.div_le_self _ _) J
 refine fD o J (λm l g=>∃s d,d=m*a/\dT s≠some 0/\Gr g s 15 (((List.range m).map λi=>xI e c a (i*a)).map dW.t)/\il 1 g/\g.get 0=some (dE 7 0 [km.t ⟨e,c⟩])/\dF l 1 (Z a)/\dF l 2 (.ptr 0 0 0 0)/\dF l 8 s/\dF l 9 (Z (d:Int))) ?_ ?_ J ?_
 ·rintro m l g T _ ⟨s,d,r,E,A,n,u,k,v,B,C⟩;have bi:=n.ne (b:=0) J;have V:d<c.length:=by
   rw[r];have k:(m+1)*a<=o*a:=aW a T;have v:o*a<=c.length+(a-1):=by rw[<-D];exact Nat.div_mul_le_self _ _
   rw[bW]at k;omega
  have⟨av,aN,N,x⟩:=A.mn (cx:=cx) (f:=dW.t) ⟨n.hp,n.low,ax _⟩ XM rfl XN rfl dy (λ_=>rfl) (xI e c a d) dz;have Q:=λ{ap:fJ} (ht:ap.p 44=some uq)=>RH ht e c d L w J J;have P:binop .add (Z (d:Int)) (Z (a:Int))=some (Z ((d:Int)+a)):=iL J J;have⟨j,ae,a8⟩:∃j:Nat,min ((d:Int)+a) (c.length:Int)=j/\j=min (d+a) c.length:=⟨min (d+a) c.length,J,rfl⟩;have al:d<=j:=J;have an:j<=c.length:=J;have W:(c.drop d).take (j-d)=(c.drop d).take a:=by
   rw[List.take_eq_take_iff];simp;omega
  have G:=N;unfold xI at G;simp[u,k,v,B,C,Q,G,V,P,ae,al,an,W];have hr:((List.range m).map λi=>xI e c a (i*a))++[xI e c a d]=(List.range (m+1)).map λi=>xI e c a (i*a):=by rw[List.range_succ,List.map_append,r];rfl
  rw[hr]at x;obtain⟨M,aA,aE,F⟩:=x;have z:=n.sz;rw[cI]at M;exact⟨av,λj=>(aE 0 j).elim E J,M,⟨F.hp,F.low,by have:=F.sz;omega⟩,(aA 0 J E).trans u,rfl,by rw[r];simp[Int.add_mul]⟩
 ·rintro l g ⟨s,d,r,E,A,n,u,k,v,B,C⟩;have S:¬d<c.length:=by
   rw[r,<-D];have:=Nat.div_add_mod (c.length+(a-1)) a;have aX:=Nat.mod_lt (c.length+(a-1)) (show a>0 by omega);rw[Nat.mul_comm]at this;omega
  simp[u,v,B,C,S];refine⟨.tuple [sl (((List.range o).map λi=>xI e c a (i*a)).map dW.t),Z 0],⟨_,0,rfl,λx X=>?_⟩,n.hp,by rw[A.rS dy];rfl⟩;obtain⟨i,_,rfl⟩:=List.mem_map.1 X;exact Su q L w I _
 ·exact⟨dD,0,dy,dy,Gr.nil _ _,by exact⟨dy,dy,dy⟩,by simp[k]⟩
end
noncomputable section
open Go Go.TI Tryz
section
attribute [-simp] List.map_take List.map_drop List.map_append
def Fs:gG:=⟨Int×Nat,λa=>[Z a.1,Z a.2],λa=>True,λa=> .bool (iN a.1 a.2),λa c b=>by simp at b;rw[b.1,show a.2=c.2 by omega]⟩
def WO:Fs.Ok prog cx 131:=by
 refine fZ [] (iX 19 [] func131) (λf=>1) (by simp[Fs]) ?_;rintro⟨e,g⟩ _ h a;simp[Fs]at a|-;obtain⟨b,c⟩:=a;by_cases d:0<=e<;>simp[f131,b,c,d,iN]
def RA{c:fJ}(ht:c.p 131=some Fs)(a:Int)(b:Nat):rl prog cx c 131 [Z a,Z b]=some (.bool (iN a b)):=im ht WO (a,b) trivial
def Hn(c:dW)(b:Int):Bool:=match rf c.jF.count b with|some a=>decide (1<=a)|none=>false
def wu:gG:=⟨dW×Int,λa=>[a.1.t,Z a.2],λa=>True,λa=> .bool (Hn a.1 a.2),λa c b=>by simp at b;rw[dW.inj b.1,b.2]⟩
def Ny:wu.Ok prog cx 132:=by
 refine fZ [(131,Fs)] (iX 23 [] func132) (λi=>1) (by simp[wu]) ?_;rintro⟨h,g⟩ _ k d;simp[wu]at d|-;obtain⟨b,c⟩:=d;cases a:iN g h.jF.count.length with
 |false=>simp[f132,b,c,RA,a,Hn,nM a]
 |true=>
  have⟨j,e,f⟩:=iD a;simp[f132,b,c,RA,a,Hn,e,f,eG (eZ.1 a).1]
def wU{c:fJ}(ht:c.p 132=some wu)(b:dW)(a:Int):rl prog cx c 132 [b.t,Z a]=some (.bool (Hn b a)):=im ht Ny (b,a) trivial
@[simp]theorem RL (a:List T):dT (sl a)=none:=by cases a<;>rfl
def sv(a b:aa iY):Bool:=match a,b with|none,_=>true|some _,none=>false|some a,some b=>decide (a.ver=b.ver)
@[simp]def ac1 (a b:iY):sv (some a) (some b)=decide (a.ver=b.ver):=id rfl
def pJ(b c:H)(a:Nat):fk b c a=sv (b.get a) (c.get a):=by
 unfold fk sv;cases b.get a with
 |none=>rfl
 |some d=>cases c.get a<;>simp
def Pb:gG:=⟨ez,λa=>[a.t],λa=>True,λa=> .bool (Cc a),λa c b=>by simp at b;rw[ez.inj b]⟩
def WT:Pb.Ok prog cx 168:=by
 refine fZ [] (iX 7 [] func168) (λd=>1) (by simp[Pb]) ?_;rintro(b:ez) _ e a;simp[Pb]at a|-;by_cases c:b.kind=3<;>simp[f168,a,c,Cc]
def RI{b:fJ}(ht:b.p 168=some Pb)(a:ez):rl prog cx b 168 [a.t]=some (.bool (Cc a)):=im ht WT a trivial
def yU:gG:=⟨Int,λa=>[Z a],λa=>True,λa=> .bool (qR a),λa c b=>by simp at b;rw[b]⟩
def PK:yU.Ok prog cx 157:=by
 refine fZ [] (iX 29 [] func157) (λh=>1) (by simp[yU]) ?_;rintro(b:Int) _ i a;simp[yU]at a|-;by_cases c:b=6
 ·simp[f157,a,c,qR]
 by_cases d:b=8
 ·simp[f157,a,d,qR]
 by_cases e:b=10
 ·simp[f157,a,e,qR]
 by_cases f:b=17
 ·simp[f157,a,f,qR]
 by_cases g:b=21<;>simp[f157,a,c,d,e,f,g,qR]
def Ub{b:fJ}(ht:b.p 157=some yU)(a:Int):rl prog cx b 157 [Z a]=some (.bool (qR a)):=im ht PK a trivial
def ta:gG:=⟨fU×Int×Int,λa=>[a.1.t,Z a.2.1,Z a.2.2],λa=>iN a.2.1 a.1.w.dL.length=true/\iN a.2.2 a.1.w.dL.length=true,λa=> .bool (mU (lq a.1.w.dL a.2.1) (lq a.1.w.dL a.2.2)),λa c b=>by simp at b;rw[fU.inj b.1,b.2.1,b.2.2]⟩
def Qr:ta.Ok prog cx 120:=by
 refine fZ [(168,Pb)] (iX 463 [(1,[(8,14),(10,14),(11,14)])] func120) (λb=>1) (by simp[ta]) ?_;rintro⟨m,p,q⟩ c t a;simp[ta]at c a|-;obtain⟨e,f,g⟩:=a;have⟨b,a,n⟩:=iD c.1;have⟨d,h,o⟩:=iD c.2;have i:=eG (eZ.1 c.1).1;have j:=eG (eZ.1 c.2).1;rw[show lq m.w.dL p=b by simp[lq,n],show lq m.w.dL q=d by simp[lq,o]];cases k:Cc b with
 |false=>simp[f120,e,f,g,i,j,a,h,RI,pJ,k,mU]
 |true=>
  cases l:Cc d with
  |false=>simp[f120,e,f,g,i,j,a,h,RI,pJ,k,l,mU]
  |true=>
   cases r:decide (b.obj=d.obj)<;>cases s:decide (b.kind=4)<;>simp[f120,e,f,g,i,j,a,h,RI,pJ,k,l,r,s,mU]
def CD{d:fJ}(ht:d.p 120=some ta)(a:fU)(b c:Int)(e:iN b a.w.dL.length=true)(f:iN c a.w.dL.length=true):rl prog cx d 120 [a.t,Z b,Z c]=some (.bool (mU (lq a.w.dL b) (lq a.w.dL c))):=im ht Qr (a,b,c) ⟨e,f⟩
end
end
noncomputable section
open Go Go.TI Tryz
attribute [-simp] List.map_take List.map_drop List.map_append fy fa eg Bool.not_or Bool.not_and
attribute [simp] fw fc
section
attribute [-simp] size_cons
def tz{e:dY}{d:fq}{a:Int}(h:kZ e d=true)(c:iN a e.ei.length=true):∃b,kt a=some a.toNat/\d.ei[a.toNat]? =some b/\j1 d a=b:=by
 rw[<-(kr h).1]at c;have⟨b,f,g⟩:=iD c;exact⟨b,eG (eZ.1 c).1,f,by simp[j1,g]⟩
def Cx{d:dY}{e:fq}{b:Int}(g:kZ d e=true)(h:iN b d.gF.length=true):∃a c,kt b=some b.toNat/\d.gF[b.toNat]? =some a/\kt a.kv=some a.kv.toNat/\e.ei[a.kv.toNat]? =some c/\pj d e b=c:=by
 have⟨a,f,i⟩:=iD h;have⟨c,j,k,l⟩:=tz g (pV g f);exact⟨a,c,eG (eZ.1 h).1,f,j,k,by simp[pj,i,l]⟩
def vU{e:dY}{d:fq}{a:Int}(h:kZ e d=true)(c:iN a e.dH.length=true):∃b,kt a=some a.toNat/\d.dH[a.toNat]? =some b/\jS d a=b:=by
 rw[<-(kr h).2.2]at c;have⟨b,f,g⟩:=iD c;exact⟨b,eG (eZ.1 c).1,f,by simp[jS,g]⟩
def lO.at{b:dW}(j:lO b){i:Int}(c:iN i b.dL.length=true):∃a:ez,b.dL[i.toNat]? =some a/\kt i=some i.toNat/\b.gx.e i=a/\iN a.dP b.em.dH.length=true/\jE b.em a.kind a.obj=true:=by
 have⟨a,d,f,g,h⟩:=j.ok.e c;exact⟨a,d,eG (eZ.1 c).1,f,g,h⟩
def lO.rd{w:dW}(c:lO w){b:Int}(g:iN b w.dL.length=true):(∀d∈(w.gx.s b).ei,d.ew.length<=2000)/\(w.gx.s b).BB:=by
 have e:=c.sm.qM (w:=w.em) (w.dL.take b.toNat);rw[(c.ok.s g).1];exact⟨λd hl=>by have f:=e.r d hl;have h:=c.ok.len;simp at f;omega,e.a⟩
structure tO(w:dW)(c:eK):Prop where
 hw:lO w
 hc:wX 1000000 w c
def pP{e:Type}{b:List e}{c:Int}(a:iN c b.length=true):b≠ []:=λd=>by rw[d,eZ]at a;simp at a
def tO.l{c:dW}{a:eK}(b:tO c a)(d:c.dL≠ []):a.fj.ei.length<=4/\a.fj.done.length<=2/\a.fj.dH.length<=4:=by
 have e:=kr (b.hc.ft d);have f:=kV b.hw.wb;omega
def tO.sm{d:dW}{c:eK}(a:tO d c)(b:d.dL≠ []):c.fj.sm:=⟨by have:=a.l b;omega,by have:=a.l b;omega,by have:=a.l b;omega,λe f=>by have:=a.hc.rd e f;omega⟩
def tO.ev{a:dW}{b:eK}(c:tO a b):a.dL.length<=1000000:=by have:=c.hw.ok.len;omega
def tO.od{c:dW}{a:eK}(b:tO c a):a.order.length<=1000000:=by have:=b.hc.od;omega
def qh{c:List ez}{a:Int}{b:ez}(e:0<=a)(d:c[a.toNat]? =some b):lq c a=b:=by unfold lq rf;rw[ar e,d];rfl
def pL:gG:=⟨dW×eK×Int,λa=>[a.1.t,a.2.1.t,Z a.2.2],λa=>tO a.1 a.2.1,λa=> .bool (ji a.1 a.2.1 a.2.2),λa c b=>by simp at b;rw[show a=c from aC (dW.inj b.1) (aC (eK.inj b.2.1) b.2.2)]⟩
def Im:pL.Ok prog cx 22:=by
 refine fZ [(12,oh),(47,mv),(48,oH)] (iX 16863 [] func22) (λw=>5) (by simp[pL]) ?_;rintro⟨a,b,d⟩ (c:tO a b) A q;simp[pL]at q|-;obtain⟨j,k,l⟩:=q;have hE:=ji.eq_1 a b d;generalize ji a b d=v at*
 have n:=λ{g:fJ} (ht:g.p 12=some oh)=>CA ht a b d c.ev c.od;by_cases f:fM a b d<0
 ·rw[ar f]at hE;simp[f22,j,k,l,n,f,hE]
 ·rw[aq f]at hE;have m:=oK f;have⟨e,h,o,x,y,z⟩:=c.hw.at m;rw[qh (eZ.1 m).1 h]at hE;have t:=c.hw.ev e (ay h);have s:a.em.gF.length<=1099511627776:=by have:=kV c.hw.wb;omega
  have r:=λ{g:fJ} (ht:g.p 47=some mv)=>vh ht a.em b.fj d e.kind e.obj s (c.sm (pP m));have u:=λ{g:fJ} (ht:g.p 48=some oH)=>F3 ht a b d e.mo c.ev t.1;cases i:iG a.em b.fj d e.kind e.obj
  ·rw[i]at hE;simp[f22,j,k,l,n,f,h,o,r,i,hE]
  ·rw[i,aZ]at hE;simp[f22,j,k,l,n,f,h,o,r,i,u,hE]
def Nd:r8.Ok prog cx 159:=by
 refine fZ [] (iX 19 [] func159) (λf=>1) (by simp[r8]) ?_;rintro⟨e,g⟩ _ h a;simp[r8]at a|-;obtain⟨b,c⟩:=a;by_cases d:0<=e<;>simp[f159,b,c,d,iN]
def Ad{c:fJ}(ht:c.p 159=some r8)(a:Int)(b:Nat):rl prog cx c 159 [Z a,Z b]=some (.bool (iN a b)):=im ht Nd (a,b) trivial
def C7:gG:=⟨dY×fq,λa=>[a.1.t,a.2.t],λa=>kZ a.1 a.2=true/\a.1.gF.length<=1000000,λa=> .bool true,λa b c=>rfl⟩
def Tg:C7.Ok prog cx 158:=by
 refine fZ [(159,r8)] (iX 35315368591455 [] func158) (λv=>1000005) (by simp[C7]) ?_;rintro⟨e,w⟩ ⟨h,r⟩ a l;simp only at h r;simp[C7]at l|-;obtain⟨o,p⟩:=l;have⟨l1,l2,l3⟩:=kr h;simp[f158,o,p,l1,l2,l3];refine fD e.gF.length J (λn a d=>il 2 d/\d.get 0=some (dE 6 0 [e.t])/\dF a 2 (.ptr 0 0 0 0)/\dF a 33 (sl (e.gF.map ja.t))/\dF a 34 (Z e.gF.length)/\dF a 35 (Z n)) ?_ ?_ J ⟨by exact⟨dy,dy,dy⟩,dy⟩
 ·rintro n a d m q ⟨c,i,j,k,f,g⟩;have s:=pV h (az m);have u:=c.ne (b:=0) J;simp[i,j,k,f,g,m,u,c.low,Ad,s,q];exact c.cons _
 ·rintro a d ⟨c,i,j,k,f,g⟩;simp[f,g,c.hp]
def ww:gG:=⟨dY×Int×Int,λa=>[a.1.t,Z a.2.1,Z a.2.2],λa=>jE a.1 a.2.1 a.2.2=true,λa=> .bool true,λa b c=>rfl⟩
def NB:ww.Ok prog cx 160:=by
 refine fZ [(159,r8)] (iX 606826398900554784047567 [] func160) (λl=>1) (by simp[ww]) ?_;rintro⟨k,a,j⟩ b m f;replace b:jE k a j=true:=b;simp[ww]at f|-;obtain⟨c,d,e⟩:=f;have hr:=pO b;have g:a=1\/a=2\/a=3\/a=4\/a=5\/a=6\/a=7\/a=8\/a=9\/a=10\/a=11\/a=12\/a=13\/a=14\/a=15\/a=16\/a=17\/a=18\/a=19\/a=20\/a=21\/a=22\/a=23:=J;rcases g with rfl|rfl|rfl|rfl|rfl|rfl|rfl|rfl|rfl|rfl|rfl|rfl|rfl|rfl|rfl|rfl|rfl|rfl|rfl|rfl|rfl|rfl|rfl
 case inr.inr.inr.inr.inr.inl|inr.inr.inr.inr.inr.inr.inl|inr.inr.inr.inr.inr.inr.inr.inl|inr.inr.inr.inr.inr.inr.inr.inr.inl|inr.inr.inr.inr.inr.inr.inr.inr.inr.inl|inr.inr.inr.inr.inr.inr.inr.inr.inr.inr.inl=>
  have hl:=jY b J;obtain⟨n,h,i⟩:=iD hl;simp[jE,i]at b;simp[f160,c,d,e,Ad,hl,h,b,eG (eZ.1 hl).1]
 all_goals
  simp[jE]at b;simp[f160,c,d,e,Ad,b]
def uO:gG:=⟨List Int×Int,λa=>[sl (a.1.map (T.int .i64)),Z a.2],λa=>a.1.length<=1000000,λa=> Z (sg a.1 a.2 0),λa c b=>by simp at b;rw[jx (λ_ _ b=>by simpa using b) b.1,b.2]⟩
def Qe:uO.Ok prog cx 55:=by
 refine A6 (tb:=⟨pt [],ht []⟩) iR iE (iX 66483 [] func55) (λ_=>1000005) (by simp[uO]) nl9 ?_;rintro⟨d,k⟩ hl b l;replace hl:d.length<=1000000:=hl;simp[uO]at l|-;obtain⟨c,e⟩:=l;simp[f55,c];refine fD d.length J (λh b i=>i=hE/\sg (d.drop h) k h=sg d k 0/\dF b 0 (sl (d.map (T.int .i64)))/\dF b 1 (Z k)/\dF b 7 (Z d.length)/\dF b 8 (Z h)) ?_ ?_ J (by simp[c,e])
 ·rintro h b i m n ⟨rfl,a,c,e,f,g⟩;rw[aI m]at a;simp only[sg]at a;simp[c,e,f,g,m];refine ej (λj=>?_) (λj=>?_)
  ·rw[ar (by simpa[eq_comm]using j)]at a;simp[<-a]
  ·rw[aq (by simpa[eq_comm]using j)]at a;simp[c,e,f,g,n,a]
 ·rintro b i ⟨rfl,a,c,e,f,g⟩;rw[bO]at a;simp only[sg]at a;simp[f,g,<-a]
def Mq{c:fJ}(ht:c.p 55=some uO)(a:List Int)(b:Int)(hl:a.length<=1000000):rl prog cx c 55 [sl (a.map (T.int .i64)),Z b]=some (Z (sg a b 0)):=im ht Qe (a,b) hl
def nG:gG:=⟨List Int×Int,λa=>[sl (a.1.map (T.int .i64)),Z a.2],λa=>a.1.length<=1000000,λa=> .bool (decide (a.2∈a.1)),λa c b=>by simp at b;rw[jx (λ_ _ b=>by simpa using b) b.1,b.2]⟩
def Kf:nG.Ok prog cx 54:=by
 refine A6 (tb:=⟨pt [(55,uO)],ht []⟩) iR iE (iX 19 [] func54) (λe=>1) (by simp[nG]) nl9 ?_;rintro⟨d,g⟩ hl f a;replace hl:d.length<=1000000:=hl;simp[nG]at a|-;obtain⟨b,c⟩:=a;simp[f54,b,c,Mq,hl,J4]
def oP{c:fJ}(ht:c.p 54=some nG)(a:List Int)(b:Int)(hl:a.length<=1000000):rl prog cx c 54 [sl (a.map (T.int .i64)),Z b]=some (.bool (decide (b∈a))):=im ht Kf (a,b) hl
structure EnG(w:dY)(s:fq)(t k o:Int):Prop where
 f:kZ w s=true
 th:iN t w.dH.length=true
 n:jE w k o=true
 c:w.gF.length<=1000000
 r:∀l∈s.ei,l.ew.length<=1000000
structure EnF(w:dY)(s:fq)(t k o:Int):Prop where
 f:kZ w s=true
 th:iN t w.dH.length=true
 n:jE w k o=true
 e:vJ w s t k o=true
 c:w.gF.length<=1000000
 r:∀l∈s.ei,l.ew.length<=1000000
def LX(a b:dY×fq×Int×Int×Int)(c:([a.1.t,a.2.1.t,Z a.2.2.1,Z a.2.2.2.1,Z a.2.2.2.2]:List T)=[b.1.t,b.2.1.t,Z b.2.2.1,Z b.2.2.2.1,Z b.2.2.2.2]):a=b:=by
 simp at c;exact aC (dY.inj c.1) (aC (fq.inj c.2.1) (aC c.2.2.1 (aC c.2.2.2.1 c.2.2.2.2)))
def yW:gG:=⟨dY×fq×Int×Int×Int,λa=>[a.1.t,a.2.1.t,Z a.2.2.1,Z a.2.2.2.1,Z a.2.2.2.2],λa=>EnG a.1 a.2.1 a.2.2.1 a.2.2.2.1 a.2.2.2.2/\a.2.2.2.1≠1/\a.2.2.2.1≠17/\(jS a.2.1 a.2.2.1).ij=2,λa=> .bool (vJ a.1 a.2.1 a.2.2.1 a.2.2.2.1 a.2.2.2.2),λa b c=>by rw[LX a b c]⟩
def PU:yW.Ok prog cx 161:=by
 refine fZ [(54,nG)] (iX 5868843906288553182383292937158044313155908148351 [] func161) (λz=>1) (by simp[yW]) ?_;rintro⟨F,D,y,a,x⟩ ⟨⟨f,ht,g,u,hr⟩,v,w,b⟩ E m;simp only at f ht g u hr v w b;simp[yW]at m|-;obtain⟨c,d,h,e,j⟩:=m;have C:=pO g;obtain⟨l1,l2,l3⟩:=kr f;have hc:a=2\/a=3\/a=4\/a=5\/a=12\/a=13\/(a=6\/a=7\/a=8\/a=9\/a=10\/a=11)\/(a=14\/a=15)\/(a=16\/a=18\/a=19)\/(a=20\/a=21)\/(a=22\/a=23):=J;rcases hc with rfl|rfl|rfl|rfl|rfl|rfl|hc|hc|hc|hc|hc
 case inr.inr.inr.inr.inr.inr.inl=>
  obtain⟨i,a1,a2,a3⟩:=tz f (jY g J);have hl:=hr i (ay a2);rcases hc with rfl|rfl|rfl|rfl|rfl|rfl<;>cases l:decide (i.iB=-1)<;>simp[f161,c,d,h,e,j,a1,a2,oP,hl,vJ,b,a3,l]
 case inr.inr.inr.inr.inr.inr.inr.inl=>
  obtain⟨i,a1,a2,a3⟩:=vU f ht;rw[a3]at b;rcases hc with rfl|rfl<;>simp[f161,c,d,h,e,a1,a2,vJ,a3,b]
 case inr.inr.inr.inr.inr.inr.inr.inr.inl=>
  obtain⟨A,i,n,o,p,q,r⟩:=Cx f (my g J);rcases hc with rfl|rfl|rfl<;>simp[f161,c,d,h,e,j,n,o,p,q,vJ,b,r]
 case inr.inr.inr.inr.inr.inr.inr.inr.inr.inl=>
  obtain⟨i,a1,a2,a3⟩:=vU f (pN g J);rcases hc with rfl|rfl<;>cases l:decide (x=y)<;>simp[f161,c,d,h,e,j,a1,a2,vJ,b,a3,l]
 case inr.inr.inr.inr.inr.inr.inr.inr.inr.inr=>
  have k:=rO g J;rw[<-l2]at k;obtain⟨B,s,t⟩:=iD k;rcases hc with rfl|rfl<;>simp[f161,c,d,e,j,s,eG (eZ.1 k).1,vJ,b,Ek,t]
 all_goals
  simp[f161,c,d,h,e,vJ,b]
def nD:gG:=⟨dY×fq×Int×Int×Int,λa=>[a.1.t,a.2.1.t,Z a.2.2.1,Z a.2.2.2.1,Z a.2.2.2.2],λa=>EnG a.1 a.2.1 a.2.2.1 a.2.2.2.1 a.2.2.2.2,λa=> .bool (vJ a.1 a.2.1 a.2.2.1 a.2.2.2.1 a.2.2.2.2),λa b c=>by rw[LX a b c]⟩
def Kd:nD.Ok prog cx 112:=by
 refine fZ [(158,C7),(159,r8),(160,ww),(161,yW)] (iX 4605278686335 [] func112) (λG=>1) (by simp[nD]) ?_;rintro⟨b,e,h,a,c⟩ i K q;replace i:EnG b e h a c:=i;have⟨l,ht,r,D,hr⟩:=id i;simp[nD]at q|-;obtain⟨B,C,n,o,k⟩:=q;have y:∀{d:fJ},d.p 158=some C7->rl prog cx d 158 [b.t,e.t]=some (.bool true):=λht=>im ht Tg (b,e) ⟨l,D⟩;have z:∀{d:fJ},d.p 160=some ww->rl prog cx d 160 [b.t,Z a,Z c]=some (.bool true):=λht=>im ht NB (b,a,c) r;have⟨m,a1,a2,a3⟩:=vU l ht;simp[f112,B,C,n,o,k,y,z,Ad,ht,a1,a2];by_cases f:a=1
 ·subst f;simp[vJ,a3]
 by_cases g:a=17
 ·subst g;have⟨H,I,s,u,v,w,x⟩:=Cx l (my r J);cases E:decide (m.ij=4)<;>cases F:decide (m.cond=c)<;>simp[k,s,u,v,w,vJ,a3,x,E,F]
 by_cases j:m.ij=2
 ·have A:∀{d:fJ},d.p 161=some yW->rl prog cx d 161 [b.t,e.t,Z h,Z a,Z c]=some (.bool (vJ b e h a c)):=λht=>im ht PU (b,e,h,a,c) ⟨i,f,g,by rw[a3];exact j⟩;simp[n,o,k,f,g,j,A]
 ·have:vJ b e h a c=false:=by unfold vJ;rw[aq f,aq g,a3,ar j]
  simp[f,g,j,this]
def F4{a:fJ}(ht:a.p 112=some nD){w:dY}{s:fq}{t k o:Int}(b:EnG w s t k o):rl prog cx a 112 [w.t,s.t,Z t,Z k,Z o]=some (.bool (vJ w s t k o)):=im ht Kd (w,s,t,k,o) b
def N2{b:fJ}(ht:b.p 112=some nD){w:dY}{s:fq}{t k o:Int}(a:EnF w s t k o):rl prog cx b 112 [w.t,s.t,Z t,Z k,Z o]=some (.bool true):=by rw[F4 ht ⟨a.f,a.th,a.n,a.c,a.r⟩,a.e]
structure Sp where
 (v:T) (es:List T)
def Bh(e:Nat)(a:Sp)(c:List T)(b:H):Prop:=c=[a.v]/\b.jw a.v=some a.es/\(∀d∈a.es,d.cells.length=e)/\a.es.length<=1000000/\il 0 b
def wy(f:Nat)(e:Sp)(g:List T)(b:H)(d:T)(c:H):Prop:=Gr c d f e.es/\Nb b c/\∀a,dT d=some a->b.size<=a
def yC{a bytes:Nat}{l:aj}(x:EG prog cx l (.clone a bytes))(v:1<=bytes)(w:bytes<=1000):(jM Sp (Bh a) (wy a)).Ok prog cx l:=by
 intro i b ⟨⟨p,e⟩,y⟩;have n:∀h:Sp,Bh a h i b->∃d c,Df (.clone a bytes) i b=some (d,c)/\wy a h i b d c:=by
  rintro⟨p,e⟩ ⟨rfl,g,m,hl,o⟩;simp only at g m hl;show∃d c,(dV (b.jw p) λe=>List.casesOn e (some (dD,b)) λ_ _=>b.jo a bytes [] e)=some (d,c)/\_;rw[g,ed];cases e with
  |nil=>exact⟨_,_,rfl,Gr.nil _ _,Nb.refl o,λr j=>by simp at j⟩
  |cons F E=>
   refine⟨_,_,pq m v (aT (Nat.mul_le_mul hl w) J),Gr.new (ep:=0) (ver:=0) (ex:=false) dy,(Nb.refl o).cons _,λr j=>by simp at j;omega⟩
 have⟨d,c,k,C⟩:=n _ y;refine⟨d,c,λh g=>?_,λq A B s z u=>x _ _ _ _ k q A B s z u⟩;have⟨r2,D,f,t⟩:=n h g;rw[k]at f;simp only[au,aD]at f;rw[f.1,f.2];exact t
def Qw:(jM Sp (Bh 1) (wy 1)).Ok prog cx 109:=yC (wQ (fn:=f109) (t:=39) (tb:=4) (te:=EM) iE func109 dG dG dG dG dG dG dG) dB (bytes:=8) dB 
def Qx:(jM Sp (Bh 1) (wy 1)).Ok prog cx 162:=yC (wQ (fn:=f162) (t:=34) (tb:=4) (te:=V7) iE func162 dG dG dG dG dG dG dG) dB (bytes:=1) dB 
def Qu:(jM Sp (Bh 3) (wy 3)).Ok prog cx 163:=yC (wQ (fn:=f163) (t:=35) (tb:=4) (te:=HG) iE func163 dG dG dG dG dG dG dG) dB (bytes:=24) dB 
def LkG(f:H)(d:Nat->Prop)(e:T)(c:dR):Prop:=∃a,e= .agg [Z c.iB,a]/\Gr f a 1 (ge c.ew)/\∀b,dT a=some b->d b
def LkD(b:List T):Prop:=∀(c d:Nat) (e f g h:T) (a:Nat),b[c]? =some (.agg [g,e])->b[d]? =some (.agg [h,f])->dT e=some a->dT f=some a->c=d
def Vp(c:fq)(j:List T)(h:H)(i:T)(b:H):Prop:=∃d e f g,i=MQ c d e f/\Cf h.size b.size b d e f g c/\Nb h b/\iM (LkG b λa=>h.size<=a/\a<b.size/\dT d≠some a/\dT e≠some a/\dT f≠some a) g c.ei/\LkD g
structure ClO(S:fq)(h h':H)(i:Nat)(es:List T)(ver:Nat):Prop where
 nb:Nb h h'
 z:h.size+3<=h'.size
 b0:h'.get h.size=some (dE 4 0 [S.t])
 b1:h'.get (h.size+1)=some (dE 4 0 [.agg [dD,Z 0,dD,dD]])
 b2:h'.get (h.size+1+1)=some ⟨2,0,ver,true,false,es⟩
 l:es.length=S.ei.length
 c:∀e∈es,∃x y,e= .agg [x,y]
 d:LkD es
 bd:∀(j:Nat) (o x:T) (c:Nat),es[j]? =some (.agg [o,x])->dT x=some c->c<h'.size
 a:iM (LkG h' λk=>h.size+3<=k/\k<h'.size) (es.take i) (S.ei.take i)
def Qv:(jM fq Ft Vp).Ok prog cx 113:=by
 refine jB (tb:=⟨pt [],ht [(109,jM Sp (Bh 1) (wy 1)),(162,jM Sp (Bh 1) (wy 1)),(163,jM Sp (Bh 3) (wy 3))]⟩) iR iE (iX 30783 [(5,[(3,6)])] func113) (λ_ _=>1000005) (λl a d dm=>by obtain⟨rfl,_⟩:=dm;simp[f113]) ?_;rintro f _ d ⟨rfl,eb,hl,eu,ht,hr⟩ z cb;simp at cb;have c4:=eb.hr;simp[f113,cb,show f.ei.length*32<=70368744177664 by omega];refine fD f.ei.length J (λl z i=>∃v ver,ClO f d i l v ver/\dF z 1 (.ptr d.size 0 0 0)/\dF z 2 (.ptr (d.size+1) 0 0 0)/\dF z 3 (.arr (d.size+1+1) 0 0 f.ei.length false)/\dF z 11 (sl (f.ei.map dR.t))/\dF z 12 (Z f.ei.length)/\dF z 13 (Z l)) ?_ ?_ J ?_
 ·rintro l z i a6 di ⟨v,ver,⟨x,ds,al,bi,bn,aX,bS,bT,aN,ae⟩,U,bN,aA,bH,ap,av⟩;have a8:il 0 i:=⟨x.ok.hp,x.ok.low,ax _⟩;have ey:=hr f.ei[l] (aF a6);have dn:f.ei.take (l+1)=f.ei.take l++[f.ei[l]]:=aQ a6;have⟨er,et,dk⟩:=bS v[l] (aF J);have eA:(d.size+1+1=i.size)=False:=dz;have ea:=a8.low;simp[aA,bH,ap,av,a6,ea];generalize f.ei[l]=w at*
  have b8:=a8.cons (dE 2 1 [w.t]);refine mF Qw dy ⟨sl (ge w.ew),ge w.ew⟩ ⟨rfl,dy,by simp[T.cells],dz,b8⟩ ?_;rintro r M ⟨G,y,aE⟩;simp only at G;have eh:=y.ok.sz;simp at eh;have a7:M.get (d.size+1+1)=some ⟨2,0,ver,true,false,v⟩:=(y.get (d.size+1+1) dz).trans (by rw[dS,aq J];exact bn);have eB:fk (i.cons (dE 2 1 [w.t])) M (d.size+1+1)=true:=fG (y.get _ dz);have ef:fk (i.cons (dE 2 1 [w.t])) M i.size=true:=fG (y.get _ dy);simp[U,bN,aA,bH,ap,av,G.iy,G.cells,a7,ef,a6,aX,dk,dX,di];have an:∀c,c<i.size->c≠d.size+1+1->(dZ M (d.size+1+1) ⟨2,0,ver+1,true,false,v.set l (.agg [Z w.iB,r])⟩).get c=i.get c:=λc e N=>by
   rw[dN a7,aq N];exact(y.get c dz).trans (by rw[dS,aq J])
  have eo:=x.ok.sz;refine⟨v.set l (.agg [Z w.iB,r]),ver+1,⟨⟨(⟨y.ok.hp,y.ok.low,ax _⟩:il 0 M).put _ _|>.hp,(⟨y.ok.hp,y.ok.low,ax _⟩:il 0 M).put _ _|>.low,dz⟩,λc e=>(an c J J).trans (x.get c e)⟩,dz,(an _ J J).trans al,(an _ J J).trans bi,by rw[dN a7,ar rfl],by simpa using aX,λC D=>?_,?_,?_,?_⟩
  ·rcases cm D with q|q
   ·exact bS C q
   ·exact⟨_,_,q⟩
  ·intro O k B g o c1 c h A j p;rw[bV]at h A;split at h<;>split at A
   ·omega
   ·split at h
    ·simp only[au,T.agg.injEq,aL,and_true]at h;have:=aE c (by rw[h.2];exact j);have:=aN k _ _ c A p;simp at*;omega
    ·simp at h
   ·split at A
    ·simp only[au,T.agg.injEq,aL,and_true]at A;have:=aE c (by rw[A.2];exact p);have:=aN O _ _ c h j;simp at*;omega
    ·simp at A
   ·exact bT O k B g o c1 c h A j p
  ·intro O o B c h j;rw[bV]at h;rw[fK];split at h
   ·split at h
    ·simp only[au,T.agg.injEq,aL,and_true]at h;have⟨_,_,_,_,p,_⟩:=G.box (b:=c) (by rw[h.2];exact j);exact H.fh p
    ·simp at h
   ·have:=aN O _ _ c h j;omega
  ·rw[dn,aQ dz];refine iM.append ?_ (.cons ?_ .nil)
   ·rw[List.take_set_of_le (aw _)];exact ae.imp λC m ⟨Y,Q,R,u⟩=>⟨Y,Q,R.mono λc e=>an c (u c e).2 (by have:=(u c e).1;omega),λc e=>⟨(u c e).1,by have:=(u c e).2;simp;omega⟩⟩
   ·simp only[List.getElem_set_self];refine⟨r,rfl,(G.mono λc e=>by rw[dN a7,aq (by have:=aE c e;simp at this;omega)]),λc e=>⟨by have:=aE c e;simp at this;omega,?_⟩⟩;have⟨_,_,_,_,p,_⟩:=G.box e;have:=H.fh p;simpa using this
 ·rintro z i ⟨v,ver,⟨x,ds,al,bi,bn,aX,bS,bT,aN,ae⟩,U,bN,aA,bH,ap,av⟩;have a8:il 0 i:=⟨x.ok.hp,x.ok.low,ax _⟩;have bB:∀g c,(dZ i d.size g).get c=if c=d.size then some g else i.get c:=λg c=>dN al g c;simp[U,aA,ap,av,al,bB];have⟨K,V⟩:∃K,K=dZ i d.size (dE 4 1 [.agg [.arr (d.size+1+1) 0 0 f.ei.length false,Z f.tx,sl (f.done.map T.bool),sl (f.dH.map dJ.t)]]):=⟨_,rfl⟩;have eC:K.size=i.size:=by rw[V];simp
  have ec:il 0 K:=by rw[V];exact a8.put _ _
  have gA:∀c,c≠d.size->K.get c=i.get c:=λc e=>by rw[V,bB,aq e]
  have dd:K.get d.size=some (dE 4 1 [.agg [.arr (d.size+1+1) 0 0 f.ei.length false,Z f.tx,sl (f.done.map T.bool),sl (f.dH.map dJ.t)]]):=by rw[V,bB,ar rfl]
  rw[<-V];refine iC Qx dy ⟨sl (f.done.map T.bool),f.done.map T.bool⟩ ⟨rfl,dy,by intro C D;obtain⟨b,_,rfl⟩:=List.mem_map.1 D;rfl,dz,ec⟩ ?_;rintro F s ⟨S,P,c6⟩;simp only at S;have eD:=P.ok.sz;have cp:=(P.get d.size J).trans dd;have bC:∀g c,(dZ s d.size g).get c=if c=d.size then some g else s.get c:=λg c=>dN cp g c;simp[U,S.iy,S.cells,cp,bC,dX];have⟨L,W⟩:∃L,L=dZ s d.size (dE 4 2 [.agg [.arr (d.size+1+1) 0 0 f.ei.length false,Z f.tx,F,sl (f.dH.map dJ.t)]]):=⟨_,rfl⟩;have eE:L.size=s.size:=by rw[W];simp
  have b8:il 0 L:=by rw[W];exact(⟨P.ok.hp,P.ok.low,ax _⟩:il 0 s).put _ _
  have bu:∀c,c≠d.size->L.get c=s.get c:=λc e=>by rw[W,bC,aq e]
  have de:L.get d.size=some (dE 4 2 [.agg [.arr (d.size+1+1) 0 0 f.ei.length false,Z f.tx,F,sl (f.dH.map dJ.t)]]):=by rw[W,bC,ar rfl]
  rw[<-W];refine iC Qu dy ⟨sl (f.dH.map dJ.t),f.dH.map dJ.t⟩ ⟨rfl,dy,by intro C D;obtain⟨b,_,rfl⟩:=List.mem_map.1 D;rfl,dz,b8⟩ ?_;rintro X n ⟨gT,E,c7⟩;simp only at gT;have eF:=E.ok.sz;have Nt:il 0 n:=⟨E.ok.hp,E.ok.low,ax _⟩;have cL:=(E.get d.size J).trans de;have dv:n.get (d.size+1)=_:=(E.get (d.size+1) J).trans ((bu _ J).trans ((P.get _ J).trans ((gA _ J).trans bi)));have ca:∀g c,(dZ n d.size g).get c=if c=d.size then some g else n.get c:=λg c=>dN cL g c;have I:∀g B c,(dZ (dZ n d.size g) (d.size+1) B).get c=if c=d.size+1 then some B else if c=d.size then some g else n.get c:=λg B c=>by
   rw[mL (by simp[Nt.hp]) dz,ca]
  simp[U,bN,gT.iy,gT.cells,cL,dv,ca,I,dX];rw[bJ J,aK]at ae;have bs:∀c,c<i.size->c≠d.size->n.get c=i.get c:=λc e N=>(E.get c J).trans ((bu c N).trans ((P.get c J).trans (gA c N)));have c9:∀c,c<s.size->c≠d.size->n.get c=s.get c:=λc e N=>(E.get c J).trans (bu c N);have eo:=x.ok.sz;have b6:∀c,dT F=some c->i.size<=c/\c<s.size:=λc e=>⟨by have:=c6 c e;omega,by have⟨_,_,_,_,p,_⟩:=S.box e;exact H.fh p⟩;have b7:∀c,dT X=some c->s.size<=c/\c<n.size:=λc e=>⟨by have:=c7 c e;omega,by have⟨_,_,_,_,p,_⟩:=gT.box e;exact H.fh p⟩;have b9:iM (LkG (md d (dZ (dZ n d.size (dE 4 3 [.agg [.arr (d.size+1+1) 0 0 f.ei.length false,Z f.tx,F,X]])) (d.size+1) (dE 4 1 [.agg [.arr (d.size+1+1) 0 0 f.ei.length false,Z f.tx,F,X]]))) λc=>d.size<=c/\c<n.size/\dT (.arr (d.size+1+1) 0 0 f.ei.length false)≠some c/\dT F≠some c/\dT X≠some c) v f.ei:=ae.imp λC w ⟨Y,Q,R,u⟩=>⟨Y,Q,R.mono λc e=>by
   have:=u c e;rw[fV,I,aq J,aq J,bs _ J J],λc e=>by
   have:=u c e;exact⟨J,J,dz,λq=>by have:=b6 c q;omega,λq=>by have:=b7 c q;omega⟩⟩
  refine⟨.arr (d.size+1+1) 0 0 f.ei.length false,F,X,v,rfl,⟨?_,S.mono λc e=>?_,gT.mono λc e=>?_,b9.imp λC w ⟨Y,Q,R,u⟩=>⟨Y,Q,.inr R,by simpa using u⟩,λc e=>?_⟩,⟨⟨?_,?_,?_⟩,λc e=>?_⟩,by simpa using b9,bT⟩
  ·rw[<-aX];exact Gr.new (ep:=0) (ver:=ver) (ex:=true) (by rw[fV,I,aq J,aq J,bs _ J J];exact bn)
  ·have:=b6 c e;rw[fV,I,aq J,aq J,c9 _ J J]
  ·have:=b7 c e;rw[fV,I,aq J,aq J]
  ·simp;rcases e with q|q|q
   ·simp at q;omega
   ·have:=b6 c q;omega
   ·have:=b7 c q;omega
  ·exact(((Nt.put _ _).put _ _).out d).hp
  ·exact(((Nt.put _ _).put _ _).out d).low
  ·simp;omega
  ·rw[fV,I,aq J,aq J,bs _ J J];exact x.get c e
 ·simp;refine⟨List.replicate f.ei.length (.agg [Z 0,dD]),0,⟨(((Nb.refl c4).cons _).cons _).cons _|>.ok,λc e=>(((((Nb.refl c4).cons _).cons _).cons _).get c e).trans (ik d c)⟩,dy,dy,dy,dy,dy,λC D=>⟨_,_,(bM D)⟩,?_,?_,.nil⟩
  ·intro O k B g o c1 c h _ j _;have:=bM (ay h);simp only[T.agg.injEq,aL,and_true]at this;rw[this.2]at j;simp at j
  ·intro O o B c h j;have:=bM (ay h);simp only[T.agg.injEq,aL,and_true]at this;rw[this.2]at j;simp at j
def w8:gG:=⟨dJ×Int,λa=>[a.1.t,Z a.2],λa=>True,λa=> .bool (decide (a.1.ij=3)&&decide (a.1.cond=a.2)),λa c b=>by simp at b;rw[dJ.inj b.1,b.2]⟩
def PI:w8.Ok prog cx 167:=by
 refine fZ [] (iX 23 [] func167) (λd=>1) (by simp[w8]) ?_;rintro⟨f,e⟩ _ g a;simp[w8]at a|-;obtain⟨b,c⟩:=a;simp[f167,b,c]
def Mi{c:fJ}(ht:c.p 167=some w8)(a:dJ)(b:Int):rl prog cx c 167 [a.t,Z b]=some (.bool (decide (a.ij=3)&&decide (a.cond=b))):=im ht PI (a,b) trivial
def ML(d:Int):∀(a c:List dJ) (b:Nat),iw d (a++c) b=iw d a b++iw d c (b+a.length):=by
 intro a;induction a with
 |nil=>intro c b;rfl
 |cons f a e=>intro c b;simp only[cy,iw,e,aU];rw[show b+(a.length+1)=b+1+a.length by omega];split<;>rfl
def CM(c:Int)(b:List dJ){a:Nat}(d:a<b.length):iw c (b.take (a+1)) 0=iw c (b.take a) 0++(if b[a].ij=3/\b[a].cond=c then [(a:Int)]else []):=by
 rw[aQ d,ML,List.length_take,ci J];simp[iw]
def nh(a:Int)(W:List Int):Int:=if a∈W then a else W.headD (-1)
structure Jq where
 (S:fq) (c0 c2 c3:T) (c wk:Int)
structure Yo(h h':H)(c3:T)(l:List dJ):Prop where
 g:Gr h' c3 3 (l.map dJ.t)
 ok:il h.size h'
 fr:∀c,c<h.size->dT c3≠some c->h'.get c=h.get c
def Vh(a:Jq)(d:List T)(b:H):Prop:=d=[MQ a.S a.c0 a.c2 a.c3,Z a.c,Z a.wk]/\Gr b a.c3 3 (a.S.dH.map dJ.t)/\il 0 b/\a.S.dH.length<=1000000
def Ps(a:Jq)(g:List T)(d:H)(f:T)(e:H):Prop:=∃b,f= Z b/\b=nh a.wk (iw a.c a.S.dH 0)/\Yo d e a.c3 (if iw a.c a.S.dH 0=[]then a.S.dH else a.S.dH.modify b.toNat (ka 4))
def M9{wk:Int}{W:List Int}{b:Nat}(d:∀c∈W,0<=c/\c<b):nh wk (W++[(b:Int)])=if nh wk W<0\/(b:Int)=wk then(b:Int)else nh wk W:=by
 unfold nh;by_cases a:wk∈W
 ·have:=d wk a;rw[ar (by simp[a]),ar a,aq J]
 ·rw[aq a];by_cases e:(b:Int)=wk
  ·subst e;rw[ar dy,ar (.inr rfl)]
  ·rw[aq (by simp[a];omega)];cases W with
   |nil=>simp
   |cons c W=>have:=d c dy;simp;intro f;omega
def PX:(jM Jq Vh Ps).Ok prog cx 118:=by
 refine jB (tb:=⟨pt [(167,w8)],ht []⟩) iR iE (iX 9126837199 [] func118) (λ_ _=>1000005) (λi a d bu=>by obtain⟨rfl,_⟩:=bu;simp[f118]) ?_;rintro⟨⟨L,a6,bS,b⟩,ae,al,M,c,wk⟩ _ d ⟨rfl,m,aX,hl⟩ g ap;simp only at m hl;simp[MQ]at ap;obtain⟨a8,h,p⟩:=ap;have aE:=λh:H=>m.len (cx:=cx) h Oz _ rfl;rw[aH]at aE;have Y:∀e,dT M=some e->e<d.size:=λe bs=>by obtain⟨_,_,_,_,bB,_⟩:=m.box bs;exact H.fh bB
 simp[f118,a8,aE];refine fD b.length J (λi g h'=>Nb d h'/\d.size<h'.size/\h'.get d.size=some (dE 4 0 [.agg [ae,Z a6,al,M]])/\dF g 1 (Z c)/\dF g 2 (Z wk)/\dF g 3 (.ptr d.size 0 0 0)/\dF g 7 (Z (nh wk (iw c (b.take i) 0)))/\dF g 11 M/\dF g 12 (Z b.length)/\dF g 13 (Z i)) ?_ ?_ J ?_
 ·rintro i g h' R av ⟨f,bC,K,h,p,I,n,G,z,A⟩;have v:il 0 h':=⟨f.ok.hp,f.ok.low,ax _⟩;obtain⟨e,N,V,O,a7,C,r,j,S⟩:=m.at (x:=b[i].t) (i:=i) (by simp[R]);rw[aH]at C S;subst C;have o:=(f.get e (H.fh r)).trans r;have bT:(e=h'.size)=False:=by have:=H.fh o;simp;omega
  have bH:=v.low;have U:=CM c b R;simp[h,p,n,G,z,A,R,o,j,bH,Mi];generalize b[i]=l at*
  have bi:∀x∈iw c (b.take i) 0,0<=x/\x<i:=λx j=>by
   obtain⟨u,y,D⟩:=t9 j;simp at D;omega
  have P:=M9 (wk:=wk) bi;have aN:=f.cons (dE 3 1 [l.t]);have X:(h'.cons (dE 3 1 [l.t])).get d.size=some (dE 4 0 [.agg [ae,Z a6,al,.arr e N 0 b.length false]]):=by rw[dS,aq J];exact K
  refine ej (λq=>?_) (λq=>?_)
  ·simp only[aB,bY,aO]at q;rw[ar ⟨q.1.1,q.1.2⟩]at U;rw[ar q.2,<-U]at P;simp[h,p,I,G,z,A,av];exact⟨aN,J,by simpa using X,P.symm⟩
  ·simp[h,p,I,n,G,z,A,av];refine⟨aN,J,by simpa using X,?_⟩;rw[U];split
   ·rename_i aA;simp only[Bool.and_eq_false_iff,cz,bU]at q;rw[P,aq];rcases q with(q|q)|q
    ·exact absurd aA.1 q
    ·exact absurd aA.2 q
    ·rintro(k|k)
     ·exact q.1 k
     ·exact q.2 k
   ·simp
 ·rintro g h' ⟨f,bC,K,h,p,I,n,G,z,A⟩;rw[aK]at n;simp[n,z,A];have v:il 0 h':=⟨f.ok.hp,f.ok.low,ax _⟩;refine ej (λq=>?_) (λq=>?_)
  ·have q:0<=nh wk (iw c b 0):=by simpa using q
   have s:nh wk (iw c b 0)∈iw c b 0:=by
    generalize iw c b 0=W at*
    unfold nh at*
    split
    ·assumption
    ·rename_i E;rw[aq E]at q;cases W with
     |nil=>simp at q
     |cons x W=>simp
   obtain⟨u,y,D⟩:=t9 s;have T:iw c b 0≠ []:=λk=>by rw[k]at s;simp at s
   obtain⟨l,ht⟩:∃l,b[u]? =some l:=⟨_,az D⟩;obtain⟨e,N,V,O,a7,C,r,j,S⟩:=m.at (x:=l.t) (i:=u) (by simp[ht]);rw[aH]at C S;subst C;have o:=(f.get e (H.fh r)).trans r;simp at y;simp[I,n,K,y,o,j,D];refine⟨_,rfl,y.symm,?_⟩;simp only;rw[aq T,cj,oz ht];have bN:=H.fh r;refine⟨?_,⟨((v.put e _).out d).hp,((v.put e _).out d).low,dz⟩,λF B E=>?_⟩
   ·have an:=(m.mono (h':=h') λw Q=>f.get w (Y w Q)).setAt rfl o u (ka 4 l).t (h':=md d (dZ h' e ⟨3,N,V+1,O,false,a7.set u (ka 4 l).t⟩)) (ver2:=V+1) (ex2:=O) (by rw[fV,dN o,ar rfl]);rw[<-br]at an;exact an
   ·simp at E;rw[fV,dN o,aq J];exact f.get F B
  ·have q:¬0<=nh wk (iw c b 0):=by simpa using q
   have T:iw c b 0=[]:=by
    generalize bn:iw c b 0=W at*
    have s:∀x∈W,0<=x:=λx j=>by rw[<-bn]at j;obtain⟨u,y,D⟩:=t9 j;omega
    unfold nh at q;split at q
    ·rename_i E;exact absurd (s _ E) q
    ·cases W with
     |nil=>rfl
     |cons x W=>have:=s x dy;simp at q;omega
   simp[n];refine⟨_,rfl,rfl,?_⟩;simp only;rw[ar T];exact⟨(m.mono (h':=h') λw Q=>f.get w (Y w Q)).out d,⟨(v.out d).hp,(v.out d).low,dz⟩,λF B _=>(fV d h' F).trans (f.get F B)⟩
 ·simp;exact⟨⟨((Nb.refl aX.hr).cons _).ok,λc B=>(((Nb.refl aX.hr).cons _).get c B).trans (ik d c)⟩,h,p,by simp[nh,iw]⟩
def Dw(b:Int)(a:dJ):dJ:=if a.ij=3/\a.cond=b then ka 4 a else a
def Vi(a:Jq)(d:List T)(b:H):Prop:=d=[MQ a.S a.c0 a.c2 a.c3,Z a.c]/\Gr b a.c3 3 (a.S.dH.map dJ.t)/\il 0 b/\a.S.dH.length<=1000000
def Pt(a:Jq)(f:List T)(b:H)(e:T)(d:H):Prop:=e= Z (iw a.c a.S.dH 0).length/\Yo b d a.c3 (a.S.dH.map (Dw a.c))
def Ig:(jM Jq Vi Pt).Ok prog cx 119:=by
 refine jB (tb:=⟨pt [(167,w8)],ht []⟩) iR iE (iX 270071 [] func119) (λ_ _=>1000005) (λi a d bi=>by obtain⟨rfl,_⟩:=bi;simp[f119]) ?_;rintro⟨⟨L,bC,bN,b⟩,av,aA,v,e,b7⟩ _ d ⟨rfl,C,al,hl⟩ l U;simp only at C hl;simp[MQ]at U;obtain⟨aX,m⟩:=U;have ae:=λm:H=>C.len (cx:=cx) m Oz _ rfl;rw[aH]at ae;have S:∀f,dT v=some f->f<d.size:=λf E=>by obtain⟨_,_,_,_,bs,_⟩:=C.box E;exact H.fh bs
 simp[f119,aX,ae];refine fD b.length J (λi l h'=>il d.size h'/\d.size<h'.size/\h'.get d.size=some (dE 4 0 [.agg [av,Z bC,aA,v]])/\(∀c,c<d.size->dT v≠some c->h'.get c=d.get c)/\Gr h' v 3 (((b.take i).map (Dw e)++b.drop i).map dJ.t)/\dF l 1 (Z e)/\dF l 2 (.ptr d.size 0 0 0)/\dF l 5 (Z (iw e (b.take i) 0).length)/\dF l 9 v/\dF l 10 (Z b.length)/\dF l 11 (Z i)) ?_ ?_ J ?_
 ·rintro i l h' n V ⟨u,Q,I,B,r,m,M,z,D,w,y⟩;have bB:il 0 h':=⟨u.hp,u.low,ax _⟩;have X:((b.take i).map (Dw e)++b.drop i)[i]? =some b[i]:=by
   rw[cV dz];simp[ci (show i<=b.length by omega),n]
  obtain⟨f,aE,ap,T,bH,W,N,Y,a8⟩:=r.at (x:=b[i].t) (i:=i) (by simp[X]);have a7:(((b.take i).map (Dw e)++b.drop i).map dJ.t).length=b.length:=dz;rw[a7]at W a8;subst W;have bT:(f=h'.size)=False:=by have:=H.fh N;simp;omega
  have E:f<d.size:=S f rfl;have bu:=bB.low;have F:=CM e b n;have bS:(iw e (b.take i) 0).length<=i:=by have:=CN e (b.take i) 0;simp at this;omega
  have a6:binop .add (Z ((iw e (b.take i) 0).length:Int)) (Z 1)=some (Z (((iw e (b.take i) 0).length:Int)+1)):=iL J J;have P:(b.take (i+1)).map (Dw e)++b.drop (i+1)=((b.take i).map (Dw e)++b.drop i).set i (Dw e b[i]):=by
   rw[List.set_append_right _ _ dz,aQ n,List.map_append,aI n];simp[ci (show i<=b.length by omega)];rw[aI n];rfl
  simp[m,D,w,y,n,N,Y,bu,Mi];have A:Dw e b[i]=if b[i].ij=3/\b[i].cond=e then ka 4 b[i]else b[i]:=rfl;generalize b[i]=h at*
  have an:=u.cons (dE 3 1 [h.t]);have q:∀c,c<h'.size->(h'.cons (dE 3 1 [h.t])).get c=h'.get c:=λc g=>by rw[dS,aq J]
  refine ej (λp=>?_) (λp=>?_)
  ·simp only[aB,aO]at p;rw[ar p]at F A;have O:=(q f J).trans N;have R:=(q d.size Q).trans I;have b6:(f=d.size)=False:=dz;simp[m,M,z,D,w,y,R,O,Y,n,a6,V];have K:∀G c,(dZ (h'.cons (dE 3 1 [h.t])) f G).get c=if c=f then some G else(h'.cons (dE 3 1 [h.t])).get c:=λG c=>dN O G c;refine⟨an.put _ _,J,by rw[K,aq J];exact R,λc g s=>by rw[K,aq (λp=>s p.symm),q c J];exact B c g (by simpa using s),?_,by rw[F];simp⟩;have aN:=r.mono (h':=h'.cons (dE 3 1 [h.t])) λc g=>q c (by simp at g;omega);have:=aN.setAt rfl O i (ka 4 h).t (h':=dZ (h'.cons (dE 3 1 [h.t])) f ⟨3,aE,ap+1,T,false,bH.set i (ka 4 h).t⟩) (ver2:=ap+1) (ex2:=T) (by rw[K,ar rfl]);rw[<-br,<-A,<-P]at this;rw[A]at this;exact this
  ·rw[aq (by simpa using p)]at F A;simp[m,M,z,D,w,y,V];refine⟨an,J,by simpa using(q d.size Q).trans I,λc g s=>by rw[aq J];exact B c g (by simpa using s),?_,by rw[F];simp⟩;have bn:((b.take i).map (Dw e)++b.drop i).set i h=(b.take i).map (Dw e)++b.drop i:=by
    apply cB;intro j;rw[bV];split
    ·rename_i k;subst k;rw[X];simp;omega
    ·rfl
   rw[A,bn]at P;have:=r.mono (h':=h'.cons (dE 3 1 [h.t])) λc g=>q c (by simp at g;omega);rw[<-P]at this;simpa using this
 ·rintro l h' ⟨u,Q,I,B,r,m,M,z,D,w,y⟩;rw[aK,bO,bQ]at r;rw[aK]at z;simp[z,w,y];exact⟨rfl,r.out d,⟨(u.out d).hp,(u.out d).low,dz⟩,λc g s=>(fV d h' c).trans (B c g s)⟩
 ·simp;exact⟨⟨al.hr.hp,al.hr.low,aw _⟩|>λ(o:il d.size (TI.hr d))=>o.cons _,λc g _ p=>by omega,(C.mono (h':=TI.hr d) λf _=>ik d f).mono λf E=>by rw[dS,aq (by have:=S f E;simp;omega)],m,by simp[iw]⟩
structure VT(h h':H)(v:T)(l:List Int):Prop where
 g:Gr h' v 1 (ge l)
 ok:il h.size h'
 fr:∀c,c<h.size->dT v≠some c->h'.get c=h.get c
def P8:nS prog cx 244 (λa:Int=>[Z a]) (λ_=>True) (λ_ d=>d= .bool false):=by
 refine yL (tb:=⟨pt [],ht []⟩) iR iE (iX 5 [] func244) (λ_=>10) (λa e c=>by simpa using c) dy nl9 ?_;rintro(a:Int) _ f b;simp at b;simp[f244,b]
def Fq:gG:=⟨Int×Int,λa=>[Z a.1,Z a.2],λa=>True,λa=> .bool (decide (a.1<a.2)),λa c b=>by simp at b;rw[b.1,b.2]⟩
def WM:Fq.Ok prog cx 210:=by
 refine A6 (tb:=⟨pt [(244,P8.jv)],ht []⟩) iR iE (iX 19 [] func210) (λa=>1) (by simp[Fq]) nl9 ?_;rintro⟨a,c⟩ _ h b;simp[Fq]at b|-;obtain⟨e,f⟩:=b;obtain⟨_,rfl,d⟩:=P8.use a trivial;obtain⟨_,rfl,g⟩:=P8.use c trivial;simp[f210,e,f,d]
def Ry{c:fJ}(ht:c.p 210=some Fq)(a b:Int):rl prog cx c 210 [Z a,Z b]=some (.bool (decide (a<b))):=im ht WM (a,b) trivial
structure R6 where
 (A:List Int) (t:Int) (v:T)
def Vj(a:R6)(c:List T)(b:H):Prop:=c=[a.v,Z 0,Z ((a.A++[a.t]).length:Nat)]/\Gr b a.v 1 (ge (a.A++[a.t]))/\il 0 b/\Jt a.A/\a.t∉a.A/\a.A.length<=10
def Gp(a:R6)(d:List T)(b:H)(e:T)(c:H):Prop:=VT b c a.v (lK a.A a.t)
def Ky{d:Int}:∀{b a:List Int},(∀c∈b,c<d)->(∀c∈a,d<c)->lK (b++a) d=b++d::a:=by
 intro b;induction b with
 |nil=>
  intro a _ e;cases a with
  |nil=>rfl
  |cons f a=>have:=e f dy;simp[lK];rw[aq J,aq J]
 |cons c b i=>intro a g e;have:=g c dy;simp only[cy,lK];rw[ar this,i (λf h=>g f (by simp[h])) e]
def MR{b:List Int}{c:Int}{a:Nat}(d:a<b.length):((ge (b.take (a+1)++c::b.drop (a+1))).set (a+1) (Z b[a])).set a (Z c)=ge (b.take a++c::b.drop a):=by
 have e:(b.take a).length=a:=dz;rw[aQ d,aI d];simp only[ge,List.map_append,aP,cO,cy,List.nil_append];have f:(List.map (T.int .i64) (b.take a)).length=a:=by simpa using e
 rw[List.set_append_right _ _ J,List.set_append_right _ _ J,f];simp
def Ns:(jM R6 Vj Gp).Ok prog cx 204:=by
 refine jB (tb:=⟨pt [(210,Fq)],ht []⟩) iR iE (iX 1073746119 [] func204) (λ_ _=>100) (λi a e aA=>by obtain⟨rfl,_⟩:=aA;simp[f204]) ?_;rintro⟨b,f,o⟩ _ e ⟨rfl,g,G,O,ht,hl⟩ h an;simp only at g O ht hl;simp at an;obtain⟨p,n,m⟩:=an;simp[f204,n];have bH:Gr (TI.hr e) o 1 (ge (b++[f])):=g.mono λl _=>ik e l;have bn:binop .add (Z 0) (Z 1)=some (Z 1):=iL J J;simp[bn];refine Ce (b.length+1) (λk h h'=>1<=k/\VT e (md e h') o (if k<=b.length then b++[f]else lK b f)/\il e.size h'/\dF h 0 o/\dF h 1 (Z 0)/\dF h 2 (Z ((b.length:Int)+1))/\dF h 6 (Z k)) ?_ J (k:=1) J ?_
 ·rintro k h h' ca ⟨b9,v,H,p,n,m,q⟩;have cL:il 0 h':=⟨H.hp,H.low,ax _⟩;by_cases cb:k<b.length+1
  ·have P:binop .add (Z (k:Int)) (Z 1)=some (Z ((k:Int)+1)):=iL J J;rw[ar J]at v;have N:Gr h' o 1 (ge (b++[f])):=v.g.mono λl _=>(fV e h' l).symm;have bN:binop .sub (Z (k:Int)) (Z 1)=some (Z ((k-1:Nat):Int)):=by rw[kU J J];congr 2;omega
   simp[m,q,show(k:Int)<b.length+1 by omega];by_cases av:k<b.length
   ·have⟨p1,K,L⟩:=(show pY h' 1 o _ from .inr N).idx (te:=EM) rfl rfl (i:=k) (x:= Z b[k]) (by simp[List.getElem?_append,av]) rfl;have⟨p2,a6,a7⟩:=(show pY h' 1 o _ from .inr N).idx (te:=EM) rfl rfl (i:=k-1) (x:= Z b[k-1]) (by simp[List.getElem?_append,show k-1<b.length by omega]) rfl;have T:¬b[k]<b[k-1]:=by
     have:=List.pairwise_iff_getElem.1 O (k-1) k J av J;omega
    refine Ce 1 (λ_ h j=>h'=j/\dF h 0 o/\dF h 1 (Z 0)/\dF h 2 (Z ((b.length:Int)+1))/\dF h 6 (Z k)/\dF h 7 (Z k)) ?_ J (k:=0) J (by simp[p,n,m,q]);rintro _ h _ _ ⟨rfl,p,n,m,q,z⟩;simp[p,n,m,q,z,K,L,a6,a7,bN,Ry,T,P];exact⟨k+1,J,J,J,by rw[ar J];exact v,H,dy⟩
   ·have bu:k=b.length:=J;subst bu;have bs:=v.fr;refine Ce b.length (λW h j=>∃r,r+W=b.length/\Gr j o 1 (ge (b.take r++f::b.drop r))/\il e.size j/\(∀d,d<e.size->dT o≠some d->j.get d=e.get d)/\(∀x∈b.drop r,f<x)/\dF h 0 o/\dF h 1 (Z 0)/\dF h 2 (Z ((b.length:Int)+1))/\dF h 6 (Z b.length)/\dF h 7 (Z r)) ?_ J (k:=0) J ⟨b.length,J,by simpa using N,H,λd A u=>(fV e h' d).symm.trans (bs d A u),dy,by simp[p,n,m,q]⟩;rintro W h j aA ⟨r,b8,F,s,Y,ap,p,n,m,q,z⟩;have c1:il 0 j:=⟨s.hp,s.low,ax _⟩;have fin:(∀x∈b.take r,x<f)->VT e (md e j) o (lK b f):=λhl=>by
     have E:=Ky hl ap;rw[cQ]at E;rw[E];exact⟨F.out e,⟨(s.out e).hp,(s.out e).low,by simp;exact s.sz⟩,λd A u=>(fV e j d).trans (Y d A u)⟩
    cases r with
    |zero=>
     simp[p,n,m,q,z,P];exact⟨b.length+1,J,J,J,by rw[aq J];exact fin dy,s,dy⟩
    |succ c=>
     have C:c<b.length:=J;have bi:(ge (b.take (c+1)++f::b.drop (c+1))).length=b.length+1:=dz;have K:(b.take (c+1)++f::b.drop (c+1))[c+1]? =some f:=by rw[cV dz];simp[ci (show c+1<=b.length by omega)]
     have L:(b.take (c+1)++f::b.drop (c+1))[c]? =some b[c]:=by rw[cK dz];simp[C]
     have⟨l,M,D,w,I,Q,B,aN,bB⟩:=F.at (x:= Z f) (i:=c+1) (by rw[aS,K];rfl);have⟨bS,bT,c4,b6,c6,R,S,V,T⟩:=F.at (x:= Z b[c]) (i:=c) (by rw[aS,L];rfl);rw[Q]at R;simp at R;obtain⟨rfl,rfl⟩:=R;rw[B]at S;simp at S;obtain⟨rfl,rfl,rfl⟩:=S;rw[bi]at Q bB T;subst Q;have aE:binop .sub (Z ((c:Int)+1)) (Z 1)=some (Z (c:Int)):=by rw[kU J J];congr 2;omega
     have aX:kt ((c:Int)+1)=some (c+1):=by have:=eG (show(0:Int)<=((c+1:Nat):Int)by omega);simpa using this
     by_cases U:f<b[c]
     ·have y:∀t d,(dZ j l t).get d=if d=l then some t else j.get d:=λt d=>dN B t d;have al:∀t X d,(dZ (dZ j l t) l X).get d=if d=l then some X else j.get d:=λt X d=>by
       rw[dN (x:=t) (by rw[y,ar rfl]),y];split<;>rfl
      have bC:∀x,(I.set (c+1) x)[c]? =some (Z b[c]):=λx=>by rw[bV,aq J];exact V
      simp[p,n,m,q,z,aE,aX,B,aN,V,show c+1<b.length+1 by omega,show c<b.length+1 by omega,show(0:Int)<(c:Int)+1 by omega,Ry,U,y,bC];have a8:=F.setAt rfl B (c+1) (Z b[c]) (h':=dZ j l ⟨1,M,D+1,w,false,I.set (c+1) (Z b[c])⟩) (ver2:=D+1) (ex2:=w) (by rw[y,ar rfl]);have ae:=a8.setAt rfl (by rw[y,ar rfl]) c (Z f) (h':=dZ (dZ j l ⟨1,M,D+1,w,false,I.set (c+1) (Z b[c])⟩) l ⟨1,M,D+1+1,w,false,(I.set (c+1) (Z b[c])).set c (Z f)⟩) (ver2:=D+1+1) (ex2:=w) (by rw[al,ar rfl]);rw[MR C]at ae;refine⟨W+1,J,J,c,J,ae,(s.put _ _).put _ _,λd A u=>by rw[al,aq (λE=>u E.symm)];exact Y d A (by simpa using u),λx hx=>?_,rfl⟩;rw[aI C]at hx;rcases List.mem_cons.1 hx with rfl|hx
      ·exact U
      ·exact ap x hx
     ·simp[p,n,m,q,z,aE,aX,B,aN,V,show c+1<b.length+1 by omega,show c<b.length+1 by omega,show(0:Int)<(c:Int)+1 by omega,Ry,U,P];refine⟨b.length+1,J,J,J,?_,s,dy⟩;rw[aq J];refine fin λx hx=>?_;obtain⟨i,b7,rfl⟩:=List.mem_take_iff_getElem.1 hx;have cp:b[c]≠f:=λk=>ht (by rw[<-k];exact aF C);rcases aR i c with k|k
      ·have:=List.pairwise_iff_getElem.1 O i c J C k;omega
      ·have:i=c:=J;subst this;omega
  ·rw[aq J]at v;simp[m,q,show¬(k:Int)<b.length+1 by omega];exact v
 ·exact⟨J,by
   have:(if 1<=b.length then b++[f]else lK b f)=b++[f]:=by
    split
    ·rfl
    ·rw[show b=[]from bg J];rfl
   rw[this];exact⟨bH.out e,⟨(G.hr.out e).hp,(G.hr.out e).low,aw _⟩,λd _ _=>(fV e _ d).trans (ik e d)⟩,⟨G.hr.hp,G.hr.low,aw _⟩,by simp[p,n,m]⟩
def Vf(a:R6×Int)(c:List T)(b:H):Prop:=c=[a.1.v,Z 0,Z ((a.1.A++[a.1.t]).length:Nat),Z a.2]/\Gr b a.1.v 1 (ge (a.1.A++[a.1.t]))/\il 0 b/\Jt a.1.A/\a.1.t∉a.1.A/\a.1.A.length<=10
def Pq(a:R6×Int)(d:List T)(b:H)(e:T)(c:H):Prop:=VT b c a.1.v (lK a.1.A a.1.t)
def VT.out{h c:H}{e:T}{d:List Int}(a:VT (TI.hr h) c e d):VT h (md h c) e d:=⟨a.g.out h,⟨(a.ok.out h).hp,(a.ok.out h).low,by have:=a.ok.sz;simpa using this⟩,λb f i=>(fV h c b).trans ((a.fr b (by simpa using f) i).trans (ik h b))⟩
def abb:(jM (R6×Int) Vf Pq).Ok prog cx 164:=by
 refine jB (tb:=⟨pt [],ht [(204,jM R6 Vj Gp)]⟩) iR iE (iX 10384593871817177683247510831234831 [] func164) (λ_ _=>100) (λw t c o=>by obtain⟨rfl,_⟩:=o;simp[f164]) ?_;rintro⟨⟨a,l,g⟩,x⟩ _ c ⟨rfl,h,s,i,ht,hl⟩ b j;simp only at h i ht hl;simp at j;obtain⟨d,e,f,v⟩:=j;have q:binop .sub (Z ((a.length:Int)+1)) (Z 0)=some (Z ((a.length:Int)+1)):=by rw[kU J J];simp
 have p:Gr (TI.hr c) g 1 (ge (a++[l])):=h.mono λm _=>ik c m;simp[f164];refine Ce 1 (λ_ b n=>TI.hr c=n/\dF b 0 g/\dF b 1 (Z 0)/\dF b 2 (Z ((a.length:Int)+1))) ?_ J (k:=0) J (by simp[d,e,f]);rintro _ b _ _ ⟨rfl,d,e,f⟩;simp[d,e,f,q,show(a.length:Int)+1<=12 by omega];refine iC Ns dy ⟨a,l,g⟩ ⟨dy,p,s.hr,i,ht,hl⟩ ?_;rintro y u r;simp;exact r.out
def wm:gG:=⟨dW×eK×Int,λa=>[a.1.t,a.2.1.t,Z a.2.2],λa=>tO a.1 a.2.1,λa=> Z (fM a.1 a.2.1 a.2.2),λa c b=>by simp at b;rw[show a=c from aC (dW.inj b.1) (aC (eK.inj b.2.1) b.2.2)]⟩
def lO.nT{c:dW}(e:lO c){b:ez}(f:b∈c.dL):iN b.dP c.em.dH.length=true:=by
 obtain⟨i,g,rfl⟩:=List.getElem_of_mem f;have⟨b,a,_,_,d,_⟩:=e.at (i:=i) (by rw[eZ];omega);simp only[cj]at a;rw[az g]at a;simp only[au]at a;rw[a];exact d
def Kk{e:Int}{i:List Int}:∀{b:List ez} (c:Nat),(∀a∈b,a.dP≠e)->rn e i b c=-1:=by
 intro b;induction b with
 |nil=>intro c _;rfl
 |cons a b g=>
  intro c d;unfold rn;rw[aq λh=>d a dy h.1];exact g _ λa f=>d a (by simp[f])
def S8:wm.Ok prog cx 98:=by
 refine fZ [(54,nG)] (iX 137454944735 [] func98) (λH=>1000) (by simp[wm]) ?_;rintro⟨a,h,d⟩ (l:tO a h) e y;simp[wm]at y|-;obtain⟨o,p,f⟩:=y;have hl:=l.ev;have K:=l.hw.ok.len;have E:=l.od;cases u:iN d a.em.dH.length with
 |false=>
  have L:=pQ u;have x:fM a h d=-1:=Kk 0 λI D F=>by have:=l.hw.nT D;rw[F,u]at this;simp at this
  by_cases B:d<0
  ·simp[f98,o,p,f,B,x]
  ·simp[f98,o,p,f,B,show(a.em.dH.length:Int)<=d by omega,x]
 |true=>
  have⟨M,N⟩:=eZ.1 u;simp[f98,o,p,f,show¬d<0 by omega,show¬(a.em.dH.length:Int)<=d by omega];refine fD a.dL.length J (λm e i=>il 2 i/\i.get 0=some (dE 15 0 [a.t])/\i.get 1=some (dE 9 0 [h.t])/\dF e 2 (Z d)/\dF e 3 (.ptr 0 0 0 0)/\dF e 4 (.ptr 1 0 0 0)/\dF e 20 (sl (a.dL.map ez.t))/\dF e 21 (Z a.dL.length)/\dF e 22 (Z m)/\rn d h.order (a.dL.drop m) m=fM a h d) ?_ ?_ J ⟨⟨dy,dy,dy⟩,dy,dy,by simp[f,fM]⟩
  ·rintro m e i z C ⟨g,v,n,f,w,r,q,j,k,c⟩;rw[aI z]at c;simp only[rn]at c;have G:=g.ne (b:=0) J;have A:=g.ne (b:=1) J;simp[n,f,r,q,j,k,z,A,g.low,oP,E];refine ej (λs=>?_) (λs=>?_)
   ·rw[ar (by simpa using s)]at c;simp[g.hp,<-c]
   ·rw[aq (by simpa using s)]at c;simp[v,n,f,w,r,q,j,k,C,g.cons,c,G,A]
  ·rintro e i ⟨g,v,n,f,w,r,q,j,k,c⟩;rw[bO]at c;simp only[rn]at c;simp[j,k,g.hp,<-c]
def Rw{d:fJ}(ht:d.p 98=some wm)(b:dW)(a:eK)(c:Int)(e:tO b a):rl prog cx d 98 [b.t,a.t,Z c]=some (Z (fM b a c)):=im ht S8 (b,a,c) e
end
end
noncomputable section
open Go Go.TI
def GY{c:dY}{b a:fq}(d:kZ c b=true)(hl:a.ei.length=b.ei.length/\a.done.length=b.done.length/\a.dH.length=b.dH.length):kZ c a=true:=by
 unfold kZ at*
 rw[hl.1,hl.2.1,hl.2.2];exact d
def wX.up{c b:Nat}{e:dW}{d:eK}(a:wX c e d)(h:c<=b):wX b e d:=⟨a.fx,a.wk,a.ce,a.fu,a.ft,λf g=>by have:=a.rd f g;omega,a.BB,by have:=a.od;omega⟩
def wX.go{f:Nat}{c:dW}{d:eK}(a:wX f c d)(i:Int)(e:ez)(g h:Int):wX (f+1) c (wJ c d i e g h):=by
 have hl:=vj c.em d.fj g e.kind e.obj h;refine⟨?_,?_,λb=>?_,λb=>?_,λb=>GY (a.ft b) ⟨hl.1,hl.2.1,hl.2.2⟩,F6 a.rd _ _ _ _ _,vk a.BB _ _ _ _ _,?_⟩
 ·have:=a.fx;simp only[wJ];grind
 ·have:=a.wk;simp only[wJ];grind
 ·have:=a.ce b;simp only[wJ];grind
 ·have:=a.fu b;simp only[wJ];grind
 ·have:=a.od;simp only[wJ,bj,aU,cM];omega
def wX.step{c:Nat}{a:dW}{b:eK}(e:wX c a b)(d:fX)(f:ji a b d.dP=true):wX (c+1) a (rZ a b d).1:=by
 unfold rZ;rw[ar f];exact e.go _ _ _ _
def wX.start{w:dW}(h:lO w):wX 1000 w (kh w):=by
 have c:w.dL≠ []->mB w.em w.jF=true:=λa=>by
  have⟨d,e,b⟩:=List.exists_cons_of_ne_nil a;have hr:=h.ok.run;unfold runs at hr;rw[b]at hr;simp only[rk,aB]at hr;exact(oJ hr.1).1
 refine⟨by simp[kh],by simp[kh],λa=>?_,λa=>?_,λa=>?_,h.sm.r,h.ok.BB,by simp[kh]⟩
 all_goals
  have:=c a;unfold mB at this;simp only[aB,aO]at this;simp[kh,this]
def aef(a:Int): -9223372036854775808<=IntKind.i64.wrap a/\IntKind.i64.wrap a<9223372036854775808:=by
 simp only[IntKind.wrap,IntKind.bits,IntKind.signed];by_cases b:a% 2^64>=(2:Int)^(64-1)<;>simp<;>omega
def Lg{a:Int}(b: -9223372036854775808<=a)(c:a<9223372036854775808):IntKind.i64.wrap a=a:=by rw[<-jA,jH b c]
def tT(b:Int):List ez->Nat->List Int
 | [],_=>[]
 |e::c,a=>if e.dP=b then(a:Int)::tT b c (a+1)else tT b c (a+1)
def Dj(d:Int):∀(a:List ez) (b:Nat),(tT d a b).length<=a.length:=by
 intro a;induction a with
 |nil=>intro b;simp[tT]
 |cons e a c=>intro b;have:=c (b+1);simp only[tT,aU];split<;>simp<;>omega
def PC(d:Int):∀(a c:List ez) (b:Nat),tT d (a++c) b=tT d a b++tT d c (b+a.length):=by
 intro a;induction a with
 |nil=>intro c b;rfl
 |cons f a e=>
  intro c b;simp only[cy,tT,e,aU];rw[show b+1+a.length=b+(a.length+1)by omega];split<;>rfl
def PB{t:Int}:∀{l:List ez} {i:Nat} {x:Int},x∈tT t l i->∃a:Nat,x=(i+a:Nat)/\a<l.length:=by
 intro l;induction l with
 |nil=>intro i x h;simp[tT]at h
 |cons c l d=>
  intro i x h;simp only[tT]at h;have b:x∈tT t l (i+1)->∃a:Nat,x=(i+a:Nat)/\a<(c::l).length:=λh=>by
   have⟨a,e,f⟩:=d h;exact⟨a+1,J,dz⟩
  split at h
  ·rcases List.mem_cons.1 h with h|h
   ·exact⟨0,J,dy⟩
   ·exact b h
  ·exact b h
def Is(f:Int):∀(b:List ez) (c:Nat) (a:Int),0<=a->a<9223372036854775808->uV f b c a=(tT f b c).getD a.toNat (-1):=by
 intro b;induction b with
 |nil=>intro c a _ _;simp[uV,tT]
 |cons i b e=>
  intro c a g h;simp only[uV,tT];split
  ·split
   ·rename_i d;subst d;simp
   ·rename_i d;rw[Lg J J,e _ _ J J,show a.toNat=(a-1).toNat+1 by omega];simp
  ·exact e _ _ g h
def QE(d:Int):∀(a:List ez) (c:Nat) (b:Int),a.length<=1000000->-9223372036854775808<=b->b<0->uV d a c b=-1:=by
 intro a;induction a with
 |nil=>intro c b _ _ _;simp[uV]
 |cons j a e=>
  intro c b f g h;simp only[aU]at f;simp only[uV];split
  ·rw[aq J];by_cases i:b=-9223372036854775808
   ·subst i;have:IntKind.i64.wrap (-9223372036854775808-1)=9223372036854775807:=dB;have hl:=Dj d a (c+1);rw[this,Is d a _ _ J J,cE,bK J];rfl
   ·rw[Lg J J];exact e _ _ J J J
  ·exact e _ _ J g h
def lO.cnt{a:dW}(b:lO a)(d:a.dL≠ []):a.jF.count.length=a.em.dH.length:=by
 have⟨e,f,c⟩:=List.exists_cons_of_ne_nil d;have hr:=b.ok.run;unfold runs at hr;rw[c]at hr;simp only[rk,aB]at hr;have:=(oJ hr.1).1;unfold mB at this;simp only[aB,aO]at this;exact this.2
end
noncomputable section
open Go Go.TI Tryz
attribute [-simp] List.map_take List.map_drop List.map_append fy fa eg Bool.not_or Bool.not_and
attribute [simp] fw fc
section
attribute [-simp] size_cons
def xg:gG:=⟨dW×eK×Int×List Int,λa=>[a.1.t,a.2.1.t,Z a.2.2.1,sl (a.2.2.2.map (T.int .i64))],λa=>tO a.1 a.2.1/\a.1.dL≠ []/\a.2.2.2.length<=1000000,λa=> .bool (mT a.1 a.2.1 a.2.2.1 a.2.2.2),λa c b=>by simp at b;rw[show a=c from aC (dW.inj b.1) (aC (eK.inj b.2.1) (aC b.2.2.1 (jx dy b.2.2.2)))]⟩
def Qh:xg.Ok prog cx 139:=by
 refine fZ [] (iX 633825300270344703797589335871 [] func139) (λa=>1000005) (by simp[xg]) ?_;rintro⟨c,g,t,l⟩ ⟨V,a8,hl⟩ d aN;simp only at V a8 hl;simp[xg]at aN|-;obtain⟨O,z,p,m⟩:=aN;have cL:=V.hw.cnt a8;have c1:=V.hw.ok.len;cases l with
 |nil=>
  have:mT c g t []=true:=by unfold mT;split<;>simp
  simp[f139,O,z,m,this]
 |cons a0 l0=>
 have bB:decide ((a0::l0).length=0)=false:=dy;generalize a0::l0=l at*
 have X:decide (l=[])=false:=by cases l<;>simp at bB|-
 cases K:iN t c.jF.count.length with
 |false=>
  have S:mT c g t l=false:=by unfold mT;rw[nM K];exact X
  have c4:=pQ K;by_cases w:t<0
  ·simp[f139,O,z,p,m,X,S,show decide (t<0)=true by simpa using w]
  ·simp[f139,O,z,p,m,X,S,show decide (t<0)=false by simpa using w,show decide ((c.em.dH.length:Int)<=t)=true by simp;omega]
 |true=>
 have⟨first,bs,bu⟩:=iD K;have b7:=eG (eZ.1 K).1;have S:mT c g t l=l.all (yy c g.fixed t first):=by unfold mT;rw[bu]
 have⟨c6,c7⟩:=eZ.1 K;simp[f139,O,z,p,m,X,S,b7,bs,show decide (t<0)=false by simp;omega,show decide ((c.em.dH.length:Int)<=t)=false by simp;omega,show decide ((c.jF.count.length:Int)<=t)=false by simp;omega];refine fD c.dL.length J (λi d o=>∃v,Gr o v 1 (ge (tT t (c.dL.take i) 0))/\(∀b,dT v=some b->2<=b)/\il 2 o/\o.get 0=some (dE 15 0 [c.t])/\o.get 1=some (dE 9 0 [g.t])/\dF d 2 (Z t)/\dF d 3 (sl (l.map (T.int .i64)))/\dF d 5 (.ptr 1 0 0 0)/\dF d 9 (Z first)/\dF d 10 v/\dF d 43 (sl (c.dL.map ez.t))/\dF d 44 (Z c.dL.length)/\dF d 45 (Z i)) ?_ ?_ J ⟨dD,Gr.nil _ _,dy,⟨dy,dy,dy⟩,dy,dy,by simp[p,m]⟩
 ·rintro i d o L I ⟨v,y,N,n,Y,B,p,m,q,j,k,P,D,E⟩;have aX:=Dj t (c.dL.take i) 0;rw[List.length_take]at aX;have A:=PC t (c.dL.take i) [c.dL[i]] 0;rw[<-aQ L,List.length_take,ci J]at A;simp only[tT]at A;generalize tT t (c.dL.take i) 0=s at*
  have an:=n.cons (dE 7 1 [c.dL[i].t]);have aE:Gr (o.cons (dE 7 1 [c.dL[i].t])) v 1 (ge s):=y.mono λb R=>by
   have⟨_,_,_,_,w,_⟩:=y.box R;rw[dS,aq (by have:=H.fh w;omega)]
  have bT:=n.ne (b:=0) J;have b6:=n.ne (b:=1) J;simp[p,P,D,E,L,n.low];refine ej (λu=>?_) (λu=>?_)
  ·rw[ar (by simpa using u)]at A;have⟨de,C,av,ca⟩:=aE.mn (cx:=cx) (f:=T.int .i64) (an.V1 (ax _)) j9 rfl mY rfl dy (λ_=>rfl) (i:Int) dz;obtain⟨a1,a2,a3,a4⟩:=ca;simp at av;have c9:=an.sz;have aA:∀b,b<2->C.get b=o.get b:=λb R=>(a2 b J λw=>by have:=N b w;omega).trans (by rw[dS,aq (by have:=n.sz;omega)]);simp[p,m,q,j,k,P,D,E,I,av];exact⟨_,by rw[A];simpa using a1,λb R=>(a3 b R).elim (N b) λw=>by omega,⟨a4.hp,a4.low,by have:=a4.sz;omega⟩,(aA 0 J).trans Y,(aA 1 J).trans B,rfl⟩
  ·rw[aq (by simpa using u)]at A;simp[p,m,q,j,k,P,D,E,I,bT,b6,Y,B];exact⟨_,by rw[A];simpa using aE,N,an,rfl⟩
 ·rintro d o ⟨v,y,N,n,Y,B,p,m,q,j,k,P,D,E⟩;rw[aK]at y;have aX:=Dj t c.dL 0;have bC:=λx=>PB (t:=t) (l:=c.dL) (i:=0) (x:=x);have own:∀h:Int,-9223372036854775808<=h->h<9223372036854775808->uV t c.dL 0 h=if 0<=h then(tT t c.dL 0).getD h.toNat (-1)else-1:=λh bS M=>by
   split
   ·exact Is t _ _ _ J M
   ·exact QE t _ _ _ J bS J
  generalize tT t c.dL 0=s at*
  simp[m,D,E];refine fD l.length J (λr d C=>C=o/\dF d 5 (.ptr 1 0 0 0)/\dF d 9 (Z first)/\dF d 10 v/\dF d 59 (sl (l.map (T.int .i64)))/\dF d 60 (Z l.length)/\dF d 61 (Z r)/\(l.drop r).all (yy c g.fixed t first)=l.all (yy c g.fixed t first)) ?_ ?_ J (by simp[q,j,k])
  ·rintro r d C L I ⟨rfl,q,j,k,Q,F,G,e⟩;rw[aI L,cd]at e;simp[j,Q,F,G,L];refine ej (λu=>?_) (λu=>?_)
   ·have:yy c g.fixed t first l[r]=true:=by unfold yy;rw[u];rfl
    rw[this,aZ]at e;simp[q,j,k,Q,F,G,I,e]
   have bH:yy c g.fixed t first l[r]=vy g.fixed (uV t c.dL 0 (IntKind.i64.wrap (l[r]-first))):=by unfold yy;rw[u];rfl
   have⟨b8,b9⟩:=aef (l[r]-first);rw[bH,own _ b8 b9]at e;have U:=λz=>y.len (cx:=cx) z qm _ rfl;simp at U;have W:=qS .i64 l[r] first
   generalize IntKind.i64.wrap (l[r]-first)=h at*
   have a6:vy g.fixed (-1)=false:=rfl;cases p1:decide (h<0)with
   |true=>
    rw[aq (by simp at p1;omega),a6,c8]at e;simp[j,W,p1,n.hp,<-e]
   |false=>
   have al:0<=h:=by simpa using p1
   rw[ar al]at e;cases p2:decide ((s.length:Int)<=h)with
   |true=>
    have:s.getD h.toNat (-1)=-1:=by rw[cE,bK (by simp at p2;omega)];rfl
    rw[this,a6,c8]at e;simp[j,k,W,p1,p2,U,n.hp,<-e]
   |false=>
   have M:h.toNat<s.length:=by simp at p2;omega
   have⟨x,a7,bN⟩:=bC s[h.toNat] (aF M);have ae:x<g.fixed.length:=by rw[V.hc.fx];exact bN
   have:s.getD h.toNat (-1)=x:=by rw[cE,az M];simpa using a7
   rw[this,show vy g.fixed x=g.fixed[x]by simp[vy,rf,ae]]at e;have⟨b,cb,di,cp,dk,dd,bi,bn,ap⟩:=y.Bp (te:=EM) rfl (i:=h.toNat) (by simpa using M);simp[a7]at ap;have p3:decide (g.fixed.length<=x)=false:=dz;cases p4:g.fixed[x]
   ·rw[p4,c8]at e;simp[q,j,k,W,p1,p2,p3,p4,U,eG al,bi,bn,ap,B,ae,n.hp,<-e]
   ·rw[p4,aZ]at e;simp[q,j,k,Q,F,G,W,p1,p2,p3,p4,U,eG al,bi,bn,ap,B,ae,I,e]
  ·rintro d C ⟨rfl,q,j,k,Q,F,G,e⟩;rw[bO]at e;simp at e;simp[F,G,n.hp];simpa using e
def Ui{e:fJ}(ht:e.p 139=some xg)(a:dW)(b:eK)(d:Int)(c:List Int)(f:tO a b)(g:a.dL≠ [])(hl:c.length<=1000000):rl prog cx e 139 [a.t,b.t,Z d,sl (c.map (T.int .i64))]=some (.bool (mT a b d c)):=im ht Qh (a,b,d,c) ⟨f,g,hl⟩
def un:gG:=⟨dW×eK×Int,λa=>[a.1.t,a.2.1.t,Z a.2.2],λa=>tO a.1 a.2.1/\iN a.2.2 a.1.em.dH.length=true,λa=> .bool (ji a.1 a.2.1 a.2.2),λa c b=>by simp at b;rw[show a=c from aC (dW.inj b.1) (aC (eK.inj b.2.1) b.2.2)]⟩
def Ke:un.Ok prog cx 97:=by
 refine fZ [(98,wm),(112,nD),(139,xg)] (iX 16863 [] func97) (λC=>5) (by simp[un]) ?_;rintro⟨w,a,t⟩ ⟨c,h⟩ F n;simp only at c h;simp[un]at n|-;obtain⟨j,l,m⟩:=n;have hE:=ji.eq_1 w a t;generalize ji w a t=B at*
 have r:=λ{e:fJ} (ht:e.p 98=some wm)=>Rw ht w a t c;by_cases d:fM w a t<0
 ·rw[ar d]at hE;simp[f97,j,l,m,r,d,hE]
 ·rw[aq d]at hE;have f:=oK d;have⟨b,g,u,D,E,i⟩:=c.hw.at f;rw[qh (eZ.1 f).1 g]at hE;have z:=c.hw.ev b (ay g);have x:w.em.gF.length<=1000000:=by have:=kV c.hw.wb;omega
  have q:=c.hc.ft (pP f);have y:=λ{e:fJ} (ht:e.p 112=some nD)=>F4 ht (w:=w.em) (s:=a.fj) (t:=t) (k:=b.kind) (o:=b.obj) ⟨q,h,i,x,c.hc.rd⟩;have A:=λ{e:fJ} (ht:e.p 139=some xg)=>Ui ht w a t b.mo c (pP f) z.1;have v:iG w.em a.fj t b.kind b.obj=vJ w.em a.fj t b.kind b.obj:=by unfold iG;rw[q,h,i];rfl
  rw[v]at hE;simp[f97,j,l,m,r,d,g,u,y,A,hE]
def N3{d:fJ}(ht:d.p 97=some un)(a:dW)(b:eK)(c:Int)(e:tO a b)(f:iN c a.em.dH.length=true):rl prog cx d 97 [a.t,b.t,Z c]=some (.bool (ji a b c)):=im ht Ke (a,b,c) ⟨e,f⟩
