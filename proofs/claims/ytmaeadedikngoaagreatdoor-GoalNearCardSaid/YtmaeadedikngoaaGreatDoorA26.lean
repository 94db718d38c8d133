/- Texts W16e to W18b. -/
import Derived.Test.YtmaeadedikngoaaGreatDoorA21
import Derived.Test.YtmaeadedikngoaaGreatDoorA25
set_option linter.all false
set_option maxRecDepth 100000
set_option maxHeartbeats 8000000
namespace Go.Proofs.YtmaeadedikngoaaGreatDoor
noncomputable section
open Go Go.TI
attribute [-simp] List.map_take List.map_drop List.map_append fw eQ dZ Bool.not_or Bool.not_and
attribute [simp] fq eY
def I4(b:List ed):Prop:=∀a∈b,a.mn.length<=1000000/\a.uF.length<=1000000
def Od(b:Prop)(c:T):Prop:=∃d a:Int,c= .tuple [dy d,dy a]/\(a=0↔b)
def tq(c:Prop)(e b:Int):Od c (.tuple [dy e,dy b])=(b=0↔c):=by
 unfold Od;apply propext;constructor
 ·rintro⟨f,g,d,a⟩;simp at d;rw[d.2];exact a
 ·exact λa=>⟨e,b,rfl,a⟩
def qG{a:dU}(b:jO a=true):a.cells.length<=12/\a.dY.length<=4/\a.fZ.length<=2/\a.dX.length<=2/\a.iq.length<=60/\a.dE.length<=4:=by
 unfold jO rK at b;simp only[aB,aO]at b;omega
def Dz:m6 Tryz.prog cx 45 (λo:jU=>[o.t]) (λo=>I4 o.dK/\o.dK.length<=1000000) (λo=>Od (oZ o.eK o.dK=true)):=by
 refine jd (tb:=⟨pt [(67,uT),(41,nW),(66,lj),(78,qM)],ht []⟩) ew ej (iQ 9223372036871623167 [] Tryz.func45) (λ_=>1000) (λj b f=>by simp at f;exact jU.inj f) dt (by simp[Tryz.f45]) ?_;rintro⟨a,c⟩ ⟨K,hl⟩ s J;simp only at K hl;simp at J;simp[Tryz.f45,J];refine dW (λG=> ?_) (λG=> ?_)
 ·simp[tq];simp at G;unfold oZ;rw[aM dq];simp
 simp at G;simp[yv];refine dW (λz=> ?_) (λz=> ?_)
 ·simp[tq];simp at z;unfold oZ;rw[show jO a=false by simpa using z];simp
 have L:jO a=true:=by simpa using z
 obtain⟨V,W,X,Y,Z,ae⟩:=qG L;simp[Cu,show a.dY.length<=1000000 by omega,show a.dX.length<=1000000 by omega,show a.dE.length<=1000000 by omega,show a.cells.length<=1000000 by omega];have R:oZ a c=Fk (pw a) Qb (jS a) [] (jF a) c:=by unfold oZ;rw[L,aT dq];simp
 rw[R];refine fh c.length dq (λe s f=>∃C i,qt e i/\Fk (pw a) Qb (jS a) [] (jF a) c=Fk (pw a) Qb (jS a) (c.take e) i (c.drop e)/\gF 2 f/\f.get 0=some (dA 7 0 [jU.t ⟨a,c⟩])/\f.get 1=some (dA 7 C [i.t])/\dB s 1 (.ptr 0 0 0 0)/\dB s 4 (.ptr 1 0 0 0)/\dB s 5 (dy e)) ?_ ?_ dq ?_
 ·rintro e s f y Q ⟨C,i,H,g,h,l,D,r,F,m⟩;have v:=h.ne (b:=0) dq;have M:=h.ne (b:=1) dq;have n:=K c[e] (aF y);rw[aI y,Fk]at g;have T:c.take (e+1)=c.take e++[c[e]]:=aU y;simp[l,D,r,F,m,y,v,M,h.low];generalize c[e]=d at*
  have q:=λ{tb:fy} (ht:tb.p 66=some lj)=>yx ht a i d dq (H.up dq) n.1 n.2;have E:=λ{tb:fy} (ht:tb.p 78=some qM) (N:List Int) (S:N.length<=1000000)=>Pi ht c e d.dQ N dq dq S;have I:(f.size=0)=False:=by have:=h.sz;simp;omega
  have A:∀j b k,dT ((f.cons j).cons b) (f.size+1) k=(f.cons j).cons k:=λj b k=>F2 _ _ _ _ rfl (by have:=h.low;simp;omega);cases w:pw a i d with
  |false=>
   rw[kW w]at q;rw[w]at g;simp[m,h.hp,A,q,tq,g]
  |true=>
   rw[show jA a i d=(jS a i d,true)by unfold jA;rw[aq w]]at q;cases x:uS (c.take e) d.dQ d.mn with
   |false=>
    have:Qb (c.take e) d=false:=by unfold Qb;rw[x];rfl
    rw[this]at g;simp[l,r,m,v,h.hp,A,I,q,E,n.1,tq,g,x]
    |true=>
    cases B:uS (c.take e) d.dQ d.uF with
    |false=>
     have:Qb (c.take e) d=false:=by unfold Qb;rw[B];simp
     rw[this]at g;simp[l,r,m,v,h.hp,A,I,q,E,n.1,n.2,tq,g,x,B]
      |true=>
     have:Qb (c.take e) d=true:=by unfold Qb;rw[x,B];rfl
     rw[this,w]at g;have O:=H.step a d;rw[show jA a i d=(jS a i d,true)by unfold jA;rw[aq w]]at O;simp[l,D,r,F,m,v,M,A,I,q,E,n.1,n.2,x,B,Q];have P:∀j b k u,(dT ((f.cons j).cons b) 1 k).get u=if u=1 then some k else((f.cons j).cons b).get u:=λj b k u=>lY (by simp[h.hp]) dt k u;refine⟨C+1,jS a i d,O,by rw[T];simpa using g,((h.cons _).cons _).put _ _,?_,?_⟩<;>rw[P]
     ·have U:(0=f.size+1)=False:=dt;simp[l,v]
     ·simp
 ·rintro s f ⟨C,i,H,g,h,l,D,r,F,m⟩;simp[Fk]at g;simp[l,r,m,g,tq,h.hp]
 ·exact⟨1,jF a,tV a dq,dt,⟨dt,dt,dt⟩,dt⟩
end
noncomputable section
open Go Go.TI
def HK(c:Nat)(d:fk):Prop:=∀b∈d.dY,∀a∈b.eg,0<=a/\a<c
def HK.pO{b:Nat}{c:fk}(f:HK b c){i:Int}{d:dV->dV}(g:∀a∈c.dY,∀e∈(d a).eg,0<=e/\e<b):HK b (c.pO i d):=by
 intro a hl;unfold fk.pO at hl;rcases mem_modify hl with j|⟨k,h,rfl⟩
 ·exact f a j
 ·exact g k h
def CC{f:Nat}{k:fk}(b:HK f k)(q:dU){g:Int}(ht:0<=g/\g<f)(n o r:Int):HK f (eG q k g n o r).1:=by
 have m:∀(d:Int) (c:dV->dV),(∀a,(c a).eg=a.eg\/(c a).eg=lH a.eg g\/(c a).eg=a.eg.filter λj=> !decide (j=g))->HK f (k.pO d c):=λd c h=>b.pO λa hl l i=>by
  rcases h a with e|e|e<;>rw[e]at i
  ·exact b a hl l i
  ·rcases BV i with p|rfl
   ·exact b a hl l p
   ·exact ht
  ·exact b a hl l (List.mem_filter.1 i).1
 exact uw (P:=λj=>HK f j.1) b b (λ_ _ _=>b) (λd c h=>⟨m d c h,λ_ _=>m d c h⟩) (λ_=>b) (λ_ _=>b) (λ_=>b)
def KE{b:dU}{e:Nat}(j:b.dE.length<=e):∀(c:List ed) (a:d8),runs b a c=true->HK e a.fF->HK e (ow b a c).fF:=by
 intro c;induction c with
 |nil=>intro a _ f;exact f
 |cons d c h=>
  intro a hr f;have hr:(pw b a d&&runs b (jS b a d) c)=true:=hr;rw[aB]at hr;have g:=sM a d hr.1;show HK e (ow b (jA b a d).1 c).fF;rw[g];obtain⟨_,i,_⟩:=tu hr.1;have:=fj.1 i;exact h _ hr.2 (CC f b dq _ _ _)
def HK.len{b:Nat}{c:fk}(d:HK b c)(e:c.D0):∀a∈c.dY,a.eg.length<=b:=λa hl=>by
 have:=KC a.eg 0 b (e a hl) (d a hl);omega
def uN(a:Nat)(b:dU):HK a (jF b).fF:=by
 intro c hl;unfold jF kQ at hl;simp only[List.mem_map]at hl;obtain⟨_,_,rfl⟩:=hl;simp
end
noncomputable section
open Go Go.TI
attribute [-simp] List.map_take List.map_drop List.map_append fw eQ dZ Bool.not_or Bool.not_and
attribute [simp] fq eY
attribute [-simp] size_cons
def HG{c:dU}{d:d8}{b:List ed}{a:Nat}(e:a<b.length):ow c d (b.drop a)=ow c (jA c d b[a]).1 (b.drop (a+1)):=by
 rw[aI e];rfl
def qQ:gu:=⟨jU×Nat,λa=>[a.1.t,dy a.2],λa=>jO a.1.eK=true/\I4 a.1.dK/\a.2<=a.1.dK.length/\a.1.dK.length<=1000,λa=>(ow a.1.eK (jF a.1.eK) (a.1.dK.take a.2)).t,λa c b=>by
 simp at b;rw[jU.inj b.1,show a.2=c.2 by omega]⟩
structure kL(w:eZ):Prop where
 ok:wQ w
 wb:jO w.eK=true
 sm:qt 1000 w.jK
 ev:I4 w.dK
 rdt:HK 4 w.jK.fF
def kO:gu:=⟨eZ×Int,λa=>[a.1.t,dy a.2],λa=>kL a.1,λa=>(ow a.1.eK a.1.jK (a.1.dK.take a.2.toNat)).t,λa c b=>by
 simp at b;rw[eZ.inj b.1,b.2]⟩
def zG{c:fy}(ht:c.p 62=some kO)(e:kO.Ok Tryz.prog cx 62)(a:eZ)(b:Int)(d:kL a):rl Tryz.prog cx c 62 [a.t,dy b]=some (ow a.eK a.jK (a.dK.take b.toNat)).t:=gU ht e (a,b) d
def LA:qQ.Ok Tryz.prog cx 46:=by
 refine gX (tb:=⟨pt [(41,nW),(66,lj)],ht []⟩) ew ej (iQ 4215 [] Tryz.func46) (λ_=>2000) (by simp[qQ]) (by simp[qQ,Tryz.f46]) ?_;rintro⟨⟨a,i⟩,k⟩ ⟨B,y,H,hl⟩ g x;simp only at B y H hl;simp[qQ]at x|-;obtain⟨E,j⟩:=x;obtain⟨N,O,P,Q,R,S⟩:=qG B;simp[Tryz.f46,E,Cu,show a.dY.length<=1000000 by omega,show a.dX.length<=1000000 by omega,show a.dE.length<=1000000 by omega,show a.cells.length<=1000000 by omega];refine fh k dq (λe g d=>∃l f,qt e f/\ow a f ((i.take k).drop e)=ow a (jF a) (i.take k)/\gF 3 d/\d.get 0=some (dA 7 0 [jU.t ⟨a,i⟩])/\d.get 1=some (dA 7 0 [.agg [dz,dy 0,dz,dz,dz,dz,dz]])/\d.get 2=some (dA 7 l [f.t])/\dB g 1 (dy k)/\dB g 2 (.ptr 0 0 0 0)/\dB g 4 (.ptr 1 0 0 0)/\dB g 5 (.ptr 2 0 0 0)/\dB g 6 (dy e)) ?_ ?_ dq ?_
 ·rintro e g d G F ⟨l,f,u,h,c,m,n,o,j,w,q,r,s⟩;have K:=c.ne (b:=0) dq;have L:=c.ne (b:=1) dq;have M:=c.ne (b:=2) dq;have A:e<i.length:=dq;have z:=y i[e] (aF A);rw[HG du,List.getElem_take]at h;have C:=λ{tb:fy} (ht:tb.p 66=some lj)=>yx ht a f i[e] dq (u.up dq) z.1 z.2;simp[m,o,j,w,q,r,s,A,C,G,F];have J:2<d.size:=by have:=c.sz;omega
  refine⟨l+1,(jA a f i[e]).1,u.step a _,h,c.put _ _,?_,?_,?_⟩<;>rw[lY c.hp J]<;>simp[m,n]
 ·rintro g d ⟨l,f,u,h,c,m,n,o,j,w,q,r,s⟩;rw[List.drop_eq_nil_of_le du]at h;have I:1<d.size:=by have:=c.sz;omega
  have D:∀v,(dT d 1 v).get 1=some v:=λv=>by rw[lY c.hp I];simp
  have h:f=_:=h;rw[<-h];simp[j,q,r,s,o,n,D,c.hp]
 ·exact⟨1,jF a,tV a dq,dt,by exact⟨dt,dt,dt⟩,by simp[j]⟩
def xf:kO.Ok Tryz.prog cx 62:=by
 refine gX (tb:=⟨pt [(66,lj)],ht []⟩) ew ej (iQ 262263 [] Tryz.func62) (λ_=>2000) (by simp[kO]) (by simp[kO,Tryz.f62]) ?_;rintro⟨f,l⟩ k h C;replace k:kL f:=k;simp[kO]at C|-;obtain⟨I,j⟩:=C;obtain⟨M,N,O,P,Q,R⟩:=qG k.wb;have hl:=k.ok.len;have G:=k.sm;have E:=k.ev;obtain⟨f,L,y,e⟩:=f;simp[Tryz.f62,I];simp only at M N O P Q R hl G E;generalize V:min l.toNat e.length=x;refine fh x dq (λd h c=>∃v g,qt (1000+d) g/\ow f g ((e.take l.toNat).drop d)=ow f y (e.take l.toNat)/\gF 3 c/\c.get 0=some (dA 15 0 [eZ.t ⟨f,L,y,e⟩])/\c.get 1=some (dA 7 0 [.agg [dz,dy 0,dz,dz,dz,dz,dz]])/\c.get 2=some (dA 7 v [g.t])/\dB h 1 (dy l)/\dB h 2 (.ptr 0 0 0 0)/\dB h 4 (.ptr 1 0 0 0)/\dB h 5 (.ptr 2 0 0 0)/\dB h 6 (dy d)) ?_ ?_ dq ?_
 ·rintro d h c U J ⟨v,g,z,i,a,m,n,o,j,w,q,r,s⟩;have W:=a.ne (b:=0) dq;have X:=a.ne (b:=1) dq;have Y:=a.ne (b:=2) dq;have F:d<e.length:=dq;have u:(d:Int)<l:=dq;have D:=E e[d] (aF F);rw[HG du,List.getElem_take]at i;have H:=λ{tb:fy} (ht:tb.p 66=some lj)=>yx ht f g e[d] dq (z.up dq) D.1 D.2;simp[m,o,j,w,q,r,s,F,H,u,J];have T:2<c.size:=by have:=a.sz;omega
  refine⟨v+1,(jA f g e[d]).1,(z.step f _).up dq,i,a.put _ _,?_,?_,?_⟩<;>rw[lY a.hp T]<;>simp[m,n]
 ·rintro h c ⟨v,g,z,i,a,m,n,o,j,w,q,r,s⟩;rw[List.drop_eq_nil_of_le du]at i;have S:1<c.size:=by have:=a.sz;omega
  have B:∀A,(dT c 1 A).get 1=some A:=λA=>by rw[lY a.hp S];simp
  have i:g=_:=i;rw[<-i];by_cases u:(x:Int)<l
  ·have K:¬x<e.length:=dq;simp[j,w,q,r,s,m,o,n,u,K,B,a.hp]
  ·simp[j,q,r,s,o,n,u,B,a.hp]
 ·exact⟨1,y,G,dt,by exact⟨dt,dt,dt⟩,by simp[j]⟩
end
end Go.Proofs.YtmaeadedikngoaaGreatDoor
