/- W16e -/
import Derived.Test.YtmoiekepclmgbaaGreatDoorA12
set_option linter.all false
set_option maxRecDepth 100000
set_option maxHeartbeats 0
namespace Go.Proofs.YtmoiekepclmgbaaGreatDoor
noncomputable section
open Go Go.TI Tryz
attribute [-simp] List.map_take List.map_drop List.map_append fU fK fh Bool.not_or Bool.not_and
attribute [simp] fT fM
def ML(b:List fk):Prop:=∀a∈b,a.mE.length<=1000000/\a.tQ.length<=1000000
def S8(b:Prop)(c:T):Prop:=∃d a:Int,c= .tuple [G d,G a]/\(a=0↔b)
def wc(c:Prop)(e b:Int):S8 c (.tuple [G e,G b])=(b=0↔c):=by
 unfold S8;apply propext;constructor
 ·rintro⟨f,g,d,a⟩;simp at d;rw[d.2];exact a
 ·exact λa=>⟨e,b,rfl,a⟩
def kW{a:fc}(b:kv a=true):a.cells.length<=12/\a.fj.length<=4/\a.iB.length<=2/\a.fa.length<=2/\a.ji.length<=60/\a.dW.length<=4:=by
 unfold kv uL at b;simp only[ax,aK]at b;omega
def Hb:o9 prog cx 45 (λo:kV=>[o.t]) (λo=>ML o.dY/\o.dY.length<=1000000) (λo=>S8 (pF o.fq o.dY=true)):=by
 refine jL [(81,zO),(41,rU),(80,oH),(92,vV)] (jr 9223372036871623167 [] func45) (λ_=>1000) (λj b f=>by simp at f;exact kV.inj f) ?_;rintro⟨a,c⟩ ⟨N,hl⟩ s M;simp only at N hl;simp at M;simp[f45,M];refine fw (λI=>?_) (λI=>?_)
 ·simp[wc];simp at I;unfold pF;rw[aO D];simp
 simp at I;simp[By];refine fw (λz=>?_) (λz=>?_)
 ·simp[wc];simp at z;unfold pF;rw[show kv a=false by simpa using z];simp
 have O:kv a=true:=by simpa using z
 have⟨Z,ae,al,an,ap,av⟩:=kW O;simp[FP,show a.fj.length<=1000000 by omega,show a.fa.length<=1000000 by omega,show a.dW.length<=1000000 by omega,show a.cells.length<=1000000 by omega];have U:pF a c=FK (pk a) Rx (ko a) [] (jW a) c:=by unfold pF;rw[O,bI D];simp
 rw[U];refine gu c.length D (λe s f=>∃C i,sR e i/\FK (pk a) Rx (ko a) [] (jW a) c=FK (pk a) Rx (ko a) (c.take e) i (c.drop e)/\iE 2 f/\f.get 0=some (dS 7 0 [kV.t ⟨a,c⟩])/\f.get 1=some (dS 7 C [i.t])/\dT s 1 (.ptr 0 0 0 0)/\dT s 4 (.ptr 1 0 0 0)/\dT s 5 (G e)) ?_ ?_ D ?_
 ·rintro e s f y T ⟨C,i,J,g,h,l,E,r,H,m⟩;have v:=h.ne (b:=0) D;have P:=h.ne (b:=1) D;have n:=N c[e] (aC y);rw[aH y,FK]at g;have W:c.take (e+1)=c.take e++[c[e]]:=aM y;simp[l,E,r,H,m,y,v,P,h.low];generalize c[e]=d at*
  have q:=λ{K:gG} (ht:K.p 80=some oH)=>DM ht a i d D (J.up D) n.1 n.2;have F:=λ{K:gG} (ht:K.p 92=some vV) (Q:List Int) (V:Q.length<=1000000)=>Ub ht c e d.eg Q D D V;have L:(f.size=0)=False:=by have:=h.sz;simp;omega
  have A:∀j b k,fg ((f.cons j).cons b) (f.size+1) k=(f.cons j).cons k:=λj b k=>Eu _ _ _ _ rfl (by have:=h.low;simp;omega);cases w:pk a i d with
  |false=>
   rw[mJ w]at q;rw[w]at g;simp[m,h.hp,A,q,wc,g]
  |true=>
   rw[show ke a i d=(ko a i d,true)by unfold ke;rw[aq w]]at q;cases x:wF (c.take e) d.eg d.mE with
   |false=>
    have:Rx (c.take e) d=false:=by unfold Rx;rw[x];rfl
    rw[this]at g;simp[l,r,m,v,h.hp,A,L,q,F,n.1,wc,g,x]
    |true=>
    cases B:wF (c.take e) d.eg d.tQ with
    |false=>
     have:Rx (c.take e) d=false:=by unfold Rx;rw[B];simp
     rw[this]at g;simp[l,r,m,v,h.hp,A,L,q,F,n.1,n.2,wc,g,x,B]
      |true=>
     have:Rx (c.take e) d=true:=by unfold Rx;rw[x,B];rfl
     rw[this,w]at g;have R:=J.step a d;rw[show ke a i d=(ko a i d,true)by unfold ke;rw[aq w]]at R;simp[l,E,r,H,m,v,P,A,L,q,F,n.1,n.2,x,B,T];have S:∀j b k u,(fg ((f.cons j).cons b) 1 k).get u=if u=1 then some k else((f.cons j).cons b).get u:=λj b k u=>nM (by simp[h.hp]) Y k u;refine⟨C+1,ko a i d,R,by rw[W];simpa using g,((h.cons _).cons _).put _ _,?_,?_⟩<;>rw[S]
     ·have X:(0=f.size+1)=False:=Y;simp[l,v]
     ·simp
 ·rintro s f ⟨C,i,J,g,h,l,E,r,H,m⟩;simp[FK]at g;simp[l,r,m,g,wc,h.hp]
 ·exact⟨1,jW a,wD a D,Y,⟨Y,Y,Y⟩,Y⟩
end
noncomputable section
open Go Go.TI
def F3(c:Nat)(d:gh):Prop:=∀b∈d.fj,∀a∈b.fF,0<=a/\a<c
def F3.qF{b:Nat}{c:gh}(f:F3 b c){i:Int}{d:em->em}(g:∀a∈c.fj,∀e∈(d a).fF,0<=e/\e<b):F3 b (c.qF i d):=by
 intro a hl;unfold gh.qF at hl;rcases mem_modify hl with j|⟨k,h,rfl⟩
 ·exact f a j
 ·exact g k h
def Av{f:Nat}{k:gh}(b:F3 f k)(q:fc){g:Int}(ht:0<=g/\g<f)(n o r:Int):F3 f (fO q k g n o r).1:=by
 have m:∀(d:Int) (c:em->em),(∀a,(c a).fF=a.fF\/(c a).fF=ng a.fF g\/(c a).fF=a.fF.filter λj=> !decide (j=g))->F3 f (k.qF d c):=λd c h=>b.qF λa hl l i=>by
  rcases h a with e|e|e<;>rw[e]at i
  ·exact b a hl l i
  ·rcases E6 i with p|rfl
   ·exact b a hl l p
   ·exact ht
  ·exact b a hl l (List.mem_filter.1 i).1
 exact xl (P:=λj=>F3 f j.1) b b (λ_ _ _=>b) (λd c h=>⟨m d c h,λ_ _=>m d c h⟩) (λ_=>b) (λ_ _=>b) (λ_=>b)
def OP{b:fc}{e:Nat}(j:b.dW.length<=e):∀(c:List fk) (a:fJ),runs b a c=true->F3 e a.fN->F3 e (o8 b a c).fN:=by
 intro c;induction c with
 |nil=>intro a _ f;exact f
 |cons d c h=>
  intro a hr f;have hr:(pk b a d&&runs b (ko b a d) c)=true:=hr;rw[ax]at hr;have g:=oF a d hr.1;show F3 e (o8 b (ke b a d).1 c).fN;rw[g];have⟨_,i,_⟩:=m6 hr.1;have:=fI.1 i;exact h _ hr.2 (Av f b D _ _ _)
def F3.len{b:Nat}{c:gh}(d:F3 b c)(e:c.BL):∀a∈c.fj,a.fF.length<=b:=λa hl=>by
 have:=ON a.fF 0 b (e a hl) (d a hl);omega
def xM(a:Nat)(b:fc):F3 a (jW b).fN:=by
 intro c hl;unfold jW mt at hl;simp only[cW]at hl;obtain⟨_,_,rfl⟩:=hl;simp
def vD(e:fc)(d:gh):Prop:=∀(b:Nat) (a:em) (c:ja),d.fj[b]? =some a->e.fj[b]? =some c->a.fF≠ []->a.jl=-1/\c.rW=true
def vD.qF{f:fc}{e:gh}(j:vD f e){c:Int}{d:em->em}(k:∀a b,e.fj[c.toNat]? =some a->f.fj[c.toNat]? =some b->(d a).fF≠ []->(d a).jl=-1/\b.rW=true):vD f (e.qF c d):=by
 intro h a b hl g hr;simp only[gh.qF,dE]at hl;by_cases i:c.toNat=h
 ·subst i;simp at hl;obtain⟨m,l,rfl⟩:=hl;exact k m b l g hr
 ·exact j h a b (by simpa[i]using hl) g hr
def vD.step{d:fc}{e:gh}{k p f x:Int}(u:∀h∈d.iB,sd d h.kY false=true)(a:vD d e)(c:je d e k p f=true):vD d (fO d e k p f x).1:=by
 unfold je at c;simp only[ax]at c;obtain⟨⟨⟨y,ht⟩,j⟩,c⟩:=c;have lk:∀{b:em},0<=f->e.fj[f.toNat]? =some b->m8 e f=b:=λi hl=>by simp[m8,qJ,i,hl]
 rcases tK j with rfl|rfl|rfl|rfl|rfl|rfl|rfl|rfl|rfl|hk|hk|hk|hk
 iterate 9 exact a
 ·have i:=(fI.1 (nz j hk)).1;rcases hk with rfl|rfl|rfl|rfl|rfl|rfl
  all_goals
   simp only[Ao,fO]at c|-;simp at c|-;refine a.qF λb l hl o hr=>?_;have n:=a _ b l hl o;rw[lk i hl]at c;simp[jN,qJ,i,o]at j
   grind
 ·obtain⟨h,t,m⟩:=iU (pL j hk);have hl:=u h (ay t);have r:∀s:Int,vD d (e.qF h.kY λb=>{b with jl:=s}):=λs=>a.qF λb l v q w=>by
   have n:=a _ b l v q w;unfold sd qJ at hl;split at hl
   ·rename_i z g;split at g
    ·rw[q]at g;simp only[ar]at g;subst g;simp at hl;rw[n.2]at hl;simp at hl
    ·simp at g
   ·simp at hl
  rcases hk with rfl|rfl|rfl|rfl
  ·simp[fO,m];exact r (-1)
  ·simp[fO,m];exact r k
  ·simp[fO];split<;>exact a
  ·exact a
 ·rcases hk with rfl|rfl<;>exact a
 ·rcases hk with rfl|rfl<;>exact a
def aa9{a:fc}(h:∀f∈a.iB,sd a f.kY false=true):∀(c:List fk) (b:fJ),runs a b c=true->vD a b.fN->vD a (o8 a b c).fN:=by
 intro c;induction c with
 |nil=>intro b _ e;exact e
 |cons d c i=>
  intro b hr e;have hr:(pk a b d&&runs a (ko a b d) c)=true:=hr;rw[ax]at hr;have g:=oF b d hr.1;show vD a (o8 a (ke a b d).1 c).fN;rw[g];exact i _ hr.2 (e.step h (m6 hr.1).2.2)
def GD{b:fc}(a:kv b=true):∀c∈b.iB,sd b c.kY false=true:=by
 unfold kv at a;simp only[ax]at a;exact List.all_eq_true.1 a.1.2
def D5(b a:fc):vD a (jW b).fN:=by
 intro c d e hl _ hr;have:=ay hl;simp[jW,mt]at this;rw[<-this.2]at hr;simp at hr
end
noncomputable section
open Go Go.TI Tryz
attribute [-simp] List.map_take List.map_drop List.map_append fU fK fh Bool.not_or Bool.not_and
attribute [simp] fT fM
section
attribute [-simp] size_cons
def UG{c:fc}{d:fJ}{b:List fk}{a:Nat}(e:a<b.length):o8 c d (b.drop a)=o8 c (ke c d b[a]).1 (b.drop (a+1)):=by
 rw[aH e];rfl
def vZ:iy:=⟨kV×Nat,λa=>[a.1.t,G a.2],λa=>kv a.1.fq=true/\ML a.1.dY/\a.2<=a.1.dY.length/\a.1.dY.length<=1000,λa=>(o8 a.1.fq (jW a.1.fq) (a.1.dY.take a.2)).t,λa c b=>by
 simp at b;rw[kV.inj b.1,show a.2=c.2 by omega]⟩
structure kZ(w:ej):Prop where
 ok:xx w
 wb:kv w.fq=true
 sm:sR 1000 w.jG
 ev:ML w.dY
 rdt:F3 4 w.jG.fN
 rwo:vD w.fq w.jG.fN
 rdw:RdW w
def P9:vZ.Ok prog cx 46:=by
 refine iq [(41,rU),(80,oH)] (jr 4215 [] func46) (λ_=>2000) (by simp[vZ]) ?_;rintro⟨⟨a,i⟩,k⟩ ⟨B,y,J,hl⟩ g x;simp only at B y J hl;simp[vZ]at x|-;obtain⟨F,j⟩:=x;have⟨Q,R,S,T,U,V⟩:=kW B;simp[f46,F,FP,show a.fj.length<=1000000 by omega,show a.fa.length<=1000000 by omega,show a.dW.length<=1000000 by omega,show a.cells.length<=1000000 by omega];refine gu k D (λe g d=>∃l f,sR e f/\o8 a f ((i.take k).drop e)=o8 a (jW a) (i.take k)/\iE 3 d/\d.get 0=some (dS 7 0 [kV.t ⟨a,i⟩])/\d.get 1=some (dS 7 0 [.agg [dR,G 0,dR,dR,dR,dR,dR]])/\d.get 2=some (dS 7 l [f.t])/\dT g 1 (G k)/\dT g 2 (.ptr 0 0 0 0)/\dT g 4 (.ptr 1 0 0 0)/\dT g 5 (.ptr 2 0 0 0)/\dT g 6 (G e)) ?_ ?_ D ?_
 ·rintro e g d I H ⟨l,f,u,h,c,m,n,o,j,w,q,r,s⟩;have N:=c.ne (b:=0) D;have O:=c.ne (b:=1) D;have P:=c.ne (b:=2) D;have A:e<i.length:=D;have z:=y i[e] (aC A);rw[UG dN,List.getElem_take]at h;have C:=λ{K:gG} (ht:K.p 80=some oH)=>DM ht a f i[e] D (u.up D) z.1 z.2;simp[m,o,j,w,q,r,s,A,C,I,H];have M:2<d.size:=by have:=c.sz;omega
  refine⟨l+1,(ke a f i[e]).1,u.step a _,h,c.put _ _,?_,?_,?_⟩<;>rw[nM c.hp M]<;>simp[m,n]
 ·rintro g d ⟨l,f,u,h,c,m,n,o,j,w,q,r,s⟩;rw[List.drop_eq_nil_of_le dN]at h;have L:1<d.size:=by have:=c.sz;omega
  have E:∀v,(fg d 1 v).get 1=some v:=λv=>by rw[nM c.hp L];simp
  have h:f=_:=h;rw[<-h];simp[j,q,r,s,o,n,E,c.hp]
 ·exact⟨1,jW a,wD a D,Y,by exact⟨Y,Y,Y⟩,by simp[j]⟩
def CM:iy:=⟨ej×Int×Int,λa=>[a.1.t,G a.2.1,G a.2.2],λa=>a.1.dY.length<=1000000,λa=> G (oZ a.2.1 a.1.dY 0 a.2.2),λa c b=>by simp at b;rw[show a=c from aD (ej.inj b.1) (aD b.2.1 b.2.2)]⟩
def ZO:CM.Ok prog cx 73:=by
 refine iq [] (jr 20975823 [] func73) (λv=>v.1.dY.length+5) (by simp[CM]) ?_;rintro⟨m,p,u⟩ hl c q;simp[CM]at hl q|-;obtain⟨w,d,e⟩:=q;simp[f73,w];refine gu m.dY.length D (λk c j=>∃l,iE 1 j/\j.get 0=some (dS 15 0 [m.t])/\dT c 1 (G p)/\dT c 2 (G l)/\dT c 3 (.ptr 0 0 0 0)/\dT c 7 (G k)/\oZ p (m.dY.drop k) k l=oZ p m.dY 0 u) ?_ ?_ D ⟨u,⟨Y,Y,Y⟩,by simp[d,e]⟩
 ·rintro k c j s r ⟨l,g,h,d,e,i,f,a⟩;have x:=g.ne (b:=0) D;rw[aH s]at a;simp only[oZ]at a;simp[h,d,i,f,s];refine fw (λn=>?_) (λn=>?_)
  ·rw[aq (by simpa using n)]at a;simp[e];refine fw (λo=>?_) (λo=>?_)
   ·rw[aq (by simpa using o)]at a;simp[f,g.hp,<-a]
   ·rw[ao (by simpa using o)]at a;simp[h,d,e,i,f,r,tZ,g,a]
  ·rw[ao (by simpa using n)]at a;simp[h,d,e,i,f,r,g,a]
 ·rintro c j ⟨l,g,h,d,e,i,f,a⟩;rw[bU]at a;simp only[oZ]at a;simp[h,i,f,g.hp,<-a]
def YM{d:gG}(ht:d.p 73=some CM)(a:ej)(c b:Int)(hl:a.dY.length<=1000000):rl prog cx d 73 [a.t,G c,G b]=some (G (oZ c a.dY 0 b)):=iA ht ZO (a,c,b) hl
def V9(e:Int):∀(c:List fk) (a:Nat) (b:Int),oZ e c a b<(a+c.length:Nat):=by
 intro c;induction c with
 |nil=>intro a b;simp[oZ];omega
 |cons f c d=>
  intro a b;have g:=d (a+1) b;have h:=d (a+1) (IntKind.i64.wrap (b-1));simp only[oZ,aP];split
  ·split<;>omega
  ·omega
def rD:iy:=⟨ej×fD×Int,λa=>[a.1.t,a.2.1.t,G a.2.2],λa=>a.1.dY.length<=1000000/\a.2.1.order.length<=1000000,λa=> G (iV a.1 a.2.1 a.2.2),λa c b=>by simp at b;rw[show a=c from aD (ej.inj b.1) (aD (fD.inj b.2.1) b.2.2)]⟩
def Sw:rD.Ok prog cx 33:=by
 refine iq [(12,Db)] (jr 536875231 [] func33) (λv=>v.1.dY.length+5) (by simp[rD]) ?_;rintro⟨l,i,m⟩ ⟨hl,y⟩ c p;simp only at hl y;simp[rD]at p|-;obtain⟨w,x,b⟩:=p;simp[f33,w,x];refine gu l.dY.length D (λf c j=>iE 2 j/\j.get 0=some (dS 15 0 [l.t])/\j.get 1=some (dS 9 0 [i.t])/\dT c 2 (G m)/\dT c 3 (.ptr 0 0 0 0)/\dT c 4 (.ptr 1 0 0 0)/\dT c 7 (G f)/\qI m i.order (l.dY.drop f) f=iV l i m) ?_ ?_ D ⟨⟨Y,Y,Y⟩,Y,Y,by simp[b,iV]⟩
 ·rintro f c j q o ⟨g,d,h,b,e,k,n,a⟩;rw[aH q]at a;simp only[qI]at a;cases s:decide (l.dY[f].eg=m)<;>cases u:decide ((f:Int)∈i.order)
  all_goals
   have r:=s;have p2:=u;simp only[aK,bZ]at r p2;simp only[r,p2]at a;simp at a;simp[d,h,b,e,k,n,q,s,u,M2,show i.order.length<=1099511627776 by omega]
  ·simp[d,h,b,e,k,o,g,a]
  ·simp[d,h,b,e,k,o,g,a]
  ·simp[g.hp,<-a]
  ·simp[d,h,b,e,k,o,g,a]
 ·rintro c j ⟨g,d,h,b,e,k,n,a⟩;rw[bU]at a;simp only[qI]at a;simp[d,e,n,g.hp,<-a]
def IS{d:gG}(ht:d.p 33=some rD)(b:ej)(a:fD)(c:Int)(hl:b.dY.length<=1000000)(e:a.order.length<=1000000):rl prog cx d 33 [b.t,a.t,G c]=some (G (iV b a c)):=iA ht Sw (b,a,c) ⟨hl,e⟩
def Td(e:Int)(d:List Int):∀(b:List fk) (a:Nat),qI e d b a<(a+b.length:Nat):=by
 intro b;induction b with
 |nil=>intro a;simp[qI];omega
 |cons f b c=>
  intro a;have g:=c (a+1);simp only[qI,aP];split<;>omega
def qV{a:ej}{b:fD}{c:Int}(d:¬iV a b c<0):ju (iV a b c) a.dY.length=true:=by
 have:=Td c b.order a.dY 0;rw[fI];unfold iV at*;omega
def pR:iy:=⟨ej×fD×Int×List Int,λa=>[a.1.t,a.2.1.t,G a.2.2.1,sl (a.2.2.2.map (T.int .i64))],λa=>a.1.dY.length<=1000000/\a.2.2.2.length<=1000000,λa=> .bool (mN a.1 a.2.1 a.2.2.1 a.2.2.2),λa c b=>by simp at b;rw[show a=c from aD (ej.inj b.1) (aD (fD.inj b.2.1) (aD b.2.2.1 (jH Y b.2.2.2)))]⟩
def Me:pR.Ok prog cx 35:=by
 refine iq [(73,CM)] (jr 2361183242534469502783 [] func35) (λM=>M.2.2.2.length+5) (by simp[pR]) ?_;rintro⟨d,b,c,l⟩ ⟨hl,P⟩ j I;simp only at hl P;simp[pR]at I|-;obtain⟨B,C,e,f⟩:=I;cases w:ju c d.jG.count.length with
 |false=>
  have z:mN d b c l=decide (l=[]):=by unfold mN;rw[oS w]
  have V:=qW w;have U:decide (l.length=0)=decide (l=[]):=by cases l<;>simp
  cases F:decide (c<0)
  ·have R:decide ((d.jG.count.length:Int)<=c)=true:=by simp at F;simp;omega
   simp[f35,B,C,e,f,F,R,z]
  ·simp[f35,B,C,e,f,F,z]
 |true=>
  have⟨first,v,O⟩:=iU w;have y:=fy (fI.1 w).1;have z:mN d b c l=l.all (yZ d b.fixed c first):=by unfold mN;rw[O]
  have⟨W,X⟩:=fI.1 w;simp[f35,B,C,e,show decide (c<0)=false by simp;omega,show decide ((d.jG.count.length:Int)<=c)=false by simp;omega,z];refine gu l.length D (λi j s=>iE 2 s/\s.get 0=some (dS 15 0 [d.t])/\s.get 1=some (dS 9 0 [b.t])/\dT j 2 (G c)/\dT j 3 (sl (l.map (T.int .i64)))/\dT j 4 (.ptr 0 0 0 0)/\dT j 5 (.ptr 1 0 0 0)/\dT j 9 (G i)/\(l.drop i).all (yZ d b.fixed c first)=l.all (yZ d b.fixed c first)) ?_ ?_ D ⟨⟨Y,Y,Y⟩,Y,Y,by simp[e,f]⟩
  ·rintro i j s o J ⟨n,k,r,e,f,m,u,h,a⟩;rw[aH o,cB]at a;simp[k,e,f,m,h,o,y,v];refine fw (λE=>?_) (λE=>?_)
   ·have:yZ d b.fixed c first l[i]=true:=by unfold yZ;rw[E];rfl
    rw[this,bg]at a;simp[k,r,e,f,m,u,h,J,n,a]
   have Q:yZ d b.fixed c first l[i]=ww b.fixed (oZ c d.dY 0 (IntKind.i64.wrap (l[i]-first))):=by unfold yZ;rw[E];rfl
   rw[Q]at a;have A:=λ{S:gG} (ht:S.p 73=some CM)=>YM ht d c (IntKind.i64.wrap (l[i]-first)) hl;generalize oZ c d.dY 0 (IntKind.i64.wrap (l[i]-first))=g at*
   cases q:decide (g<0)with
   |true=>
    have p3:g<0:=by simpa using q
    have:ww b.fixed g=false:=by unfold ww qJ;rw[ao D];rfl
    rw[this]at a;simp at a;simp[k,e,f,m,h,o,y,v,tZ,A,q,n.hp,a]
   |false=>
   have p3:¬g<0:=by simpa using q
   cases x:decide ((b.fixed.length:Int)<=g)with
   |true=>
    have p4:(b.fixed.length:Int)<=g:=by simpa using x
    have:ww b.fixed g=false:=by unfold ww;rw[oS (by unfold ju;simp;omega)];rfl
    rw[this]at a;simp at a;simp[k,r,e,f,m,u,h,o,y,v,tZ,A,q,x,n.hp,a]
   |false=>
    have p4:¬(b.fixed.length:Int)<=g:=by simpa using x
    have⟨H,K,N⟩:=iU (l:=b.fixed) (i:=g) (by rw[fI];omega);have:ww b.fixed g=H:=by unfold ww;rw[N];rfl
    rw[this]at a;have L:=fy (show 0<=g by omega);cases H
    ·simp at a;simp[k,r,e,f,m,u,h,o,y,v,tZ,A,q,x,L,K,n.hp,a]
    ·simp only[bg]at a;simp[k,r,e,f,m,u,h,o,y,v,tZ,A,q,x,L,K,J,n,a]
  ·rintro j s ⟨n,k,r,e,f,m,u,h,a⟩;rw[bU]at a;simp at a;simp[f,h,n.hp];simpa using a
def Hz{e:gG}(ht:e.p 35=some pR)(b:ej)(c:fD)(d:Int)(a:List Int)(hl:b.dY.length<=1000000)(f:a.length<=1000000):rl prog cx e 35 [b.t,c.t,G d,sl (a.map (T.int .i64))]=some (.bool (mN b c d a)):=iA ht Me (b,c,d,a) ⟨hl,f⟩
end
end
noncomputable section
open Go Go.TI
def agU(a:Int): -9223372036854775808<=IntKind.i64.wrap a/\IntKind.i64.wrap a<9223372036854775808:=by
 simp only[IntKind.wrap,IntKind.bits,IntKind.signed];by_cases b:a% 2^64>=(2:Int)^(64-1)<;>simp<;>omega
def Du{a:Int}(b: -9223372036854775808<=a)(c:a<9223372036854775808):IntKind.i64.wrap a=a:=by rw[<-kh,kr b c]
def nT(b:Int):List fk->Nat->List Int
 | [],_=>[]
 |e::c,a=>if e.eg=b then(a:Int)::nT b c (a+1)else nT b c (a+1)
def yc(d:Int):∀(a:List fk) (b:Nat),(nT d a b).length<=a.length:=by
 intro a;induction a with
 |nil=>intro b;simp[nT]
 |cons e a c=>intro b;have:=c (b+1);simp only[nT,aP];split<;>simp<;>omega
def AY(d:Int):∀(a c:List fk) (b:Nat),nT d (a++c) b=nT d a b++nT d c (b+a.length):=by
 intro a;induction a with
 |nil=>intro c b;rfl
 |cons f a e=>
  intro c b;simp only[cM,nT,e,aP];rw[show b+1+a.length=b+(a.length+1)by omega];split<;>rfl
def ED{t:Int}:∀{l:List fk} {i:Nat} {x:Int},x∈nT t l i->∃a:Nat,x=(i+a:Nat)/\a<l.length:=by
 intro l;induction l with
 |nil=>intro i x h;simp[nT]at h
 |cons c l d=>
  intro i x h;simp only[nT]at h;have b:x∈nT t l (i+1)->∃a:Nat,x=(i+a:Nat)/\a<(c::l).length:=λh=>by
   have⟨a,e,f⟩:=d h;exact⟨a+1,D,dN⟩
  split at h
  ·rcases List.mem_cons.1 h with h|h
   ·exact⟨0,D,Y⟩
   ·exact b h
  ·exact b h
def A6(f:Int):∀(b:List fk) (c:Nat) (a:Int),0<=a->a<9223372036854775808->oZ f b c a=(nT f b c).getD a.toNat (-1):=by
 intro b;induction b with
 |nil=>intro c a _ _;simp[oZ,nT]
 |cons i b e=>
  intro c a g h;simp only[oZ,nT];split
  ·split
   ·rename_i d;subst d;simp
   ·rename_i d;rw[Du D D,e _ _ D D,show a.toNat=(a-1).toNat+1 by omega];simp
  ·exact e _ _ g h
def Ta(d:Int):∀(a:List fk) (c:Nat) (b:Int),a.length<=1000000->-9223372036854775808<=b->b<0->oZ d a c b=-1:=by
 intro a;induction a with
 |nil=>intro c b _ _ _;simp[oZ]
 |cons j a e=>
  intro c b f g h;simp only[aP]at f;simp only[oZ];split
  ·rw[ao D];by_cases i:b=-9223372036854775808
   ·subst i;have:IntKind.i64.wrap (-9223372036854775808-1)=9223372036854775807:=dP;have hl:=yc d a (c+1);rw[this,A6 d a _ _ D D,bQ,bP D];rfl
   ·rw[Du D D];exact e _ _ D D D
  ·exact e _ _ D g h
def EO{f:Int}:∀{b:List Int} {e:aa Int} {c:Int},xz f e b=true->c∈b->1<=c/\c<f:=by
 intro b;induction b with
 |nil=>intro e c _ a;simp at a
 |cons j b i=>
  intro e c a d;simp only[xz,ax]at a;rcases List.mem_cons.1 d with rfl|d
  ·have g:=a.1.1.1;have h:=a.1.1.2;simp at g h;omega
  ·exact i a.2 d
def J7(c:List Int)(a b:Nat)(e:a<c.length):(c.modify a (· +1)).getD b 0=c.getD b 0+if a=b then 1 else 0:=by
 simp only[bQ,dE];by_cases d:a=b
 ·subst d;simp[e]
 ·simp[d]
def Oo{e:fc}{c:Int}(t0:0<=c):∀(b:List fk) (a:fJ),runs e a b=true->(o8 e a b).count.getD c.toNat 0=a.count.getD c.toNat 0+(nT c b 0).length:=by
 intro b;induction b with
 |nil=>intro a _;simp[o8,wC,nT]
 |cons d b m=>
  intro a l;have hr:(pk e a d&&runs e (ko e a d) b)=true:=l;rw[ax]at hr;show(o8 e (ke e a d).1 b).count.getD _ 0=_;rw[oF a d hr.1,m _ hr.2];have⟨j,k,_⟩:=m6 hr.1;unfold mD at j;simp only[ax,aK]at j;have hl:∀(f:List fk) (g h:Nat),(nT c f g).length=(nT c f h).length:=by
   intro f;induction f with
   |nil=>intro g h;rfl
   |cons q f n=>intro g h;simp only[nT];split<;>simp[n (g+1) (h+1)]
  have p:=fI.1 k;show(a.count.modify d.eg.toNat (· +1)).getD _ 0+_=_;rw[J7 _ _ _ D];simp only[nT];have o:=hl b (0+1) 0;by_cases i:d.eg=c
  ·rw[aq i,i,aq rfl,aP];omega
  ·rw[ao (show¬d.eg.toNat=c.toNat by omega),ao i];omega
def Pm{m p:Int}:∀(g:List fk) (i:Nat) (j:Bool) (e:Nat),xQ m p g i j=true->j=true\/∃(d f:Nat) (c:fk),p=(i+d:Nat)/\(nT m g e)[d]? =some ((e+f:Nat):Int)/\g[f]? =some c/\(c.kind=3\/c.kind=23):=by
 intro g;induction g with
 |nil=>intro i j e b;exact .inl b
 |cons n g o=>
  intro i j e b;unfold xQ at b;unfold nT;by_cases q:n.eg=m
  ·rw[aq q]at b|-;rcases o _ _ (e+1) b with a|⟨d,f,c,a,h,k,l⟩
   ·simp only[cr,ax,aK]at a;rcases a with a|⟨a,h⟩
    ·exact .inl a
    ·exact .inr ⟨0,0,n,D,Y,Y,h⟩
   ·exact .inr ⟨d+1,f+1,c,D,by simp only[dq,h,ar];omega,by simpa using k,l⟩
  ·rw[ao q]at b|-;rcases o _ _ (e+1) b with a|⟨d,f,c,a,h,k,l⟩
   ·exact .inl a
   ·exact .inr ⟨d,f+1,c,a,by simp only[h,ar];omega,by simpa using k,l⟩
def WW{f b:Type}{m:f->b->Bool}{i:List b->b->Bool}{l:f->b->f}:∀(c h:List b) (j:f) (a:Nat) (d:b),FK m i l h j c=true->c[a]? =some d->i (h++c.take a) d=true:=by
 intro c;induction c with
 |nil=>intro _ _ a d _ e;simp at e
 |cons n c k=>
  intro h j a d e g;simp only[FK,ax]at e;cases a with
  |zero=>simp at g;subst g;simpa using e.1.2
  |succ a=>
   have:=k _ _ a d e.2 (by simpa using g);simpa using this
def L8(d:Int):∀(c:List fk) (a b:Nat),nT d c (a+b)=(nT d c a).map (· +(b:Int)):=by
 intro c;induction c with
 |nil=>intro a b;rfl
 |cons f c e=>
  intro a b;simp only[nT];rw[show a+b+1=a+1+b by omega,e];split<;>simp
def QX{f:fc}{b:List fk}(j:pF f b=true){e:Nat}(K:e<=16)(a:Nat):RdW (xI f b e a):=by
 have⟨s,_,H⟩:=xd j;unfold pF at j;simp only[ax]at j;intro d c i first t w u J
 have h:((b.drop a).take e)[d]? =some c:=t;have y:a<=b.length:=by
  rcases aS b.length a with q|q
  ·rw[List.drop_of_length_le D]at h;simp at h
  ·exact q
 have v:d<e:=by have:=(List.getElem?_eq_some_iff.1 h).1;simp at this;omega
 rw[ci,aq v,bM]at h;have hr:=WW _ _ _ _ _ j.2 h;simp only[cG,Rx,ax,wF,cz]at hr;have z:xQ c.eg i (b.take (a+d)) 0 false=true:=w.elim (hr.1 i) (hr.2 i);rcases Pm _ _ _ 0 z with q|⟨r,M,p,N,k,l,B⟩
 ·simp at q
 have I:=(List.getElem?_eq_some_iff.1 k).1;have x:=yc c.eg (b.take (a+d)) 0;rw[List.length_take]at x;have g:qJ (o8 f (jW f) (b.take a)).count c.eg=some first:=u
 have t0:0<=c.eg:=by
  unfold qJ at g;split at g
  ·assumption
  ·simp at g
 have m:=Oo t0 (b.take a) (jW f) (tJ s a);unfold qJ at g;rw[aq t0]at g;rw[bQ,g]at m;have F:(jW f).count.getD c.eg.toNat 0=0:=by
  simp only[jW,bQ,aR];cases f.dW[c.eg.toNat]? <;>rfl
 rw[F]at m;simp only[cU]at m;have E:b.take (a+d)=b.take a++(b.drop a).take d:=by rw[List.take_add]
 rw[E,AY,List.length_take,cy y,cZ D,L8 c.eg _ 0 a]at k;rw[aR]at k;have⟨O,n,P⟩:=Option.map_eq_some_iff.1 k;have⟨o,L,A⟩:=ED (ay n);refine⟨o,p,?_,?_,B⟩
 ·show oZ c.eg ((b.drop a).take e) 0 (i-first)=_;rw[A6 _ _ _ _ D D];have C:(b.drop a).take e=(b.drop a).take d++((b.drop a).drop d).take (e-d):=by rw[<-List.take_add];congr 1;omega
  rw[C,AY,bQ,cv (by have:=(List.getElem?_eq_some_iff.1 n).1;omega),show(i-first).toNat=r-(nT c.eg (b.take a) 0).length by omega,n];simp only[cU];omega
 ·show((b.drop a).take e)[o]? =some p;rw[List.length_take]at A;rw[ci,aq D,bM];rw[ci]at l;split at l
  ·rw[<-l];congr 1;omega
  ·simp at l
end
noncomputable section
open Go Go.TI Tryz
attribute [-simp] List.map_take List.map_drop List.map_append fU fK fh Bool.not_or Bool.not_and
attribute [simp] fT fM
def ag0(c:T):Prop:=∃(a:List ej) (b:Int),c= .tuple [sl (a.map ej.t),G b]/\∀d∈a,kZ d
def Ur{d:gG}(ht:d.p 46=some vZ)(b:fc)(a:List fk)(c:Nat)(e:kv b=true)(f:ML a)(g:c<=a.length)(h:a.length<=1000):rl prog cx d 46 [kV.t ⟨b,a⟩,G c]=some (o8 b (jW b) (a.take c)).t:=iA ht P9 (⟨b,a⟩,c) ⟨e,f,g,h⟩
def Vb{w:fc}{b:List fk}(e:pF w b=true)(d:kv w=true)(j:ML b){g:Nat}(f:g<=16)(a:Nat):kZ (xI w b g a):=by
 have⟨c,i,l⟩:=xd e;have⟨m,n,o,p,q,r⟩:=kW d;refine⟨QY c i f a,d,?_,λh k=>j h (bK (bJ k)),OP D _ _ (tJ c a) (xM 4 w),aa9 (GD d) _ _ (tJ c a) (D5 w w),QX e f a⟩;have:=(wD w D).o8 (w:=w) (b.take a);exact this.up dN 
def G6:o9 prog cx 18 (λh:kV×Nat=>[h.1.t,G h.2]) (λh=>ML h.1.dY/\h.1.dY.length<=1000000/\1<=h.2/\h.2<=16) (λ_=>ag0):=by
 refine jL [(45,Hb.jX),(46,vZ)] (jr 138478519 [(10,[(2,6),(6,8),(6,14),(6,17)])] func18) (λ_=>2000) (λh b g=>by simp at g;exact aD (kV.inj g.1) (by have:=g.2;omega)) ?_;rintro⟨⟨e,c⟩,a⟩ ⟨w,hl,V,K⟩ l J;simp only at w hl V K;simp at J;obtain⟨P,k⟩:=J;obtain⟨_,⟨x,y,rfl,ae⟩,S⟩:=Hb.use ⟨e,c⟩ ⟨w,hl⟩;simp[f18,P,S];refine fw (λL=>?_) (λL=>?_)
 ·simp;exact⟨[],12,rfl,Y⟩
 have q:pF e c=true:=ae.1 (by simpa using L);have M:kv e=true:=by
  unfold pF at q;simp only[ax]at q;exact q.1.2
 have a8:c.length<=400:=(xd q).2.2;simp[k,show¬(a:Int)<1 by omega,show¬(16:Int)<a by omega];generalize E:(c.length+(a-1))/a=o;have a7:o<=c.length+16:=by rw[<-E];exact aQ (Nat.div_le_self _ _) D
 refine gu o D (λm l g=>∃s d,d=m*a/\eG s≠some 0/\Gr g s 15 (((List.range m).map λi=>xI e c a (i*a)).map ej.t)/\iE 1 g/\g.get 0=some (dS 7 0 [kV.t ⟨e,c⟩])/\dT l 1 (G a)/\dT l 2 (.ptr 0 0 0 0)/\dT l 8 s/\dT l 9 (G (d:Int))) ?_ ?_ D ?_
 ·rintro m l g U _ ⟨s,d,r,F,A,n,u,k,v,B,C⟩;have bn:=n.ne (b:=0) D;have W:d<c.length:=by
   rw[r];have k:(m+1)*a<=o*a:=aV a U;have v:o*a<=c.length+(a-1):=by rw[<-E];exact Nat.div_mul_le_self _ _
   rw[cg]at k;omega
  have⟨aA,aX,O,x⟩:=A.my (cx:=cx) (f:=ej.t) ⟨n.hp,n.low,aw _⟩ aaC rfl aaF rfl Y (λ_=>rfl) (xI e c a d) dN;have R:=λ{av:gG} (ht:av.p 46=some vZ)=>Ur ht e c d M w D D;have Q:binop .add (G (d:Int)) (G (a:Int))=some (G ((d:Int)+a)):=iZ D D;have⟨j,al,bi⟩:∃j:Nat,min ((d:Int)+a) (c.length:Int)=j/\j=min (d+a) c.length:=⟨min (d+a) c.length,D,rfl⟩;have an:d<=j:=D;have ap:j<=c.length:=D;have X:(c.drop d).take (j-d)=(c.drop d).take a:=by
   rw[List.take_eq_take_iff];simp;omega
  have I:=O;unfold xI at I;simp[u,k,v,B,C,R,I,W,Q,al,an,ap,X];have hr:((List.range m).map λi=>xI e c a (i*a))++[xI e c a d]=(List.range (m+1)).map λi=>xI e c a (i*a):=by rw[List.range_succ,List.map_append,r];rfl
  rw[hr]at x;obtain⟨N,aE,aN,H⟩:=x;have z:=n.sz;rw[List.map_map]at N;exact⟨aA,λj=>(aN 0 j).elim F D,N,⟨H.hp,H.low,by have:=H.sz;omega⟩,(aE 0 D F).trans u,rfl,by rw[r];simp[Int.add_mul]⟩
 ·rintro l g ⟨s,d,r,F,A,n,u,k,v,B,C⟩;have T:¬d<c.length:=by
   rw[r,<-E];have:=Nat.div_add_mod (c.length+(a-1)) a;have a6:=Nat.mod_lt (c.length+(a-1)) (show a>0 by omega);rw[Nat.mul_comm]at this;omega
  simp[u,v,B,C,T];refine⟨.tuple [sl (((List.range o).map λi=>xI e c a (i*a)).map ej.t),G 0],⟨_,0,rfl,λx Z=>?_⟩,n.hp,by rw[A.qC Y];rfl⟩;obtain⟨i,_,rfl⟩:=List.mem_map.1 Z;exact Vb q M w K _
 ·exact⟨dR,0,Y,Y,Gr.nil _ _,by exact⟨Y,Y,Y⟩,by simp[k]⟩
end
noncomputable section
open Go Go.TI Tryz
section
attribute [-simp] List.map_take List.map_drop List.map_append
def GT:iy:=⟨Int×Nat,λa=>[G a.1,G a.2],λa=>True,λa=> .bool (ju a.1 a.2),λa c b=>by simp at b;rw[b.1,show a.2=c.2 by omega]⟩
def ZR:GT.Ok prog cx 125:=by
 refine iq [] (jr 19 [] func125) (λf=>1) (by simp[GT]) ?_;rintro⟨e,g⟩ _ h a;simp[GT]at a|-;obtain⟨b,c⟩:=a;by_cases d:0<=e<;>simp[f125,b,c,d,ju]
def Ul{c:gG}(ht:c.p 125=some GT)(a:Int)(b:Nat):rl prog cx c 125 [G a,G b]=some (.bool (ju a b)):=iA ht ZR (a,b) trivial
def IV(c:ej)(b:Int):Bool:=match qJ c.jG.count b with|some a=>decide (1<=a)|none=>false
def x6:iy:=⟨ej×Int,λa=>[a.1.t,G a.2],λa=>True,λa=> .bool (IV a.1 a.2),λa c b=>by simp at b;rw[ej.inj b.1,b.2]⟩
def P5:x6.Ok prog cx 126:=by
 refine iq [(125,GT)] (jr 23 [] func126) (λi=>1) (by simp[x6]) ?_;rintro⟨h,g⟩ _ k d;simp[x6]at d|-;obtain⟨b,c⟩:=d;cases a:ju g h.jG.count.length with
 |false=>simp[f126,b,c,Ul,a,IV,oS a]
 |true=>
  have⟨j,e,f⟩:=iU a;simp[f126,b,c,Ul,a,IV,e,f,fy (fI.1 a).1]
def yu{c:gG}(ht:c.p 126=some x6)(b:ej)(a:Int):rl prog cx c 126 [b.t,G a]=some (.bool (IV b a)):=iA ht P5 (b,a) trivial
@[simp]theorem Uu (a:List T):eG (sl a)=none:=by cases a<;>rfl
def sv(a b:aa jv):Bool:=match a,b with|none,_=>true|some _,none=>false|some a,some b=>decide (a.ver=b.ver)
@[simp]def afC (a b:jv):sv (some a) (some b)=decide (a.ver=b.ver):=id rfl
def qR(b c:H)(a:Nat):fQ b c a=sv (b.get a) (c.get a):=by
 unfold fQ sv;cases b.get a with
 |none=>rfl
 |some d=>cases c.get a<;>simp
def RC:iy:=⟨fk,λa=>[a.t],λa=>True,λa=> .bool (uG a),λa c b=>by simp at b;rw[fk.inj b]⟩
def ZW:RC.Ok prog cx 142:=by
 refine iq [] (jr 7 [] func142) (λd=>1) (by simp[RC]) ?_;rintro(b:fk) _ e a;simp[RC]at a|-;by_cases c:b.kind=3<;>simp[f142,a,c,uG]
def Us{b:gG}(ht:b.p 142=some RC)(a:fk):rl prog cx b 142 [a.t]=some (.bool (uG a)):=iA ht ZW a trivial
def AK:iy:=⟨Int,λa=>[G a],λa=>True,λa=> .bool (sH a),λa c b=>by simp at b;rw[b]⟩
def Se:AK.Ok prog cx 105:=by
 refine iq [] (jr 29 [] func105) (λh=>1) (by simp[AK]) ?_;rintro(b:Int) _ i a;simp[AK]at a|-;by_cases c:b=6
 ·simp[f105,a,c,sH]
 by_cases d:b=8
 ·simp[f105,a,d,sH]
 by_cases e:b=10
 ·simp[f105,a,e,sH]
 by_cases f:b=17
 ·simp[f105,a,f,sH]
 by_cases g:b=21<;>simp[f105,a,c,d,e,f,g,sH]
def W7{b:gG}(ht:b.p 105=some AK)(a:Int):rl prog cx b 105 [G a]=some (.bool (sH a)):=iA ht Se a trivial
def uS:iy:=⟨gY×Int×Int,λa=>[a.1.t,G a.2.1,G a.2.2],λa=>ju a.2.1 a.1.w.dY.length=true/\ju a.2.2 a.1.w.dY.length=true,λa=> .bool (nD (lL a.1.w.dY a.2.1) (lL a.1.w.dY a.2.2)),λa c b=>by simp at b;rw[gY.inj b.1,b.2.1,b.2.2]⟩
def SW:uS.Ok prog cx 104:=by
 refine iq [(142,RC)] (jr 463 [(1,[(8,14),(10,14),(11,14)])] func104) (λb=>1) (by simp[uS]) ?_;rintro⟨m,p,q⟩ c t a;simp[uS]at c a|-;obtain⟨e,f,g⟩:=a;have⟨b,a,n⟩:=iU c.1;have⟨d,h,o⟩:=iU c.2;have i:=fy (fI.1 c.1).1;have j:=fy (fI.1 c.2).1;rw[show lL m.w.dY p=b by simp[lL,n],show lL m.w.dY q=d by simp[lL,o]];cases k:uG b with
 |false=>simp[f104,e,f,g,i,j,a,h,Us,qR,k,nD]
 |true=>
  cases l:uG d with
  |false=>simp[f104,e,f,g,i,j,a,h,Us,qR,k,l,nD]
  |true=>
   cases r:decide (b.obj=d.obj)<;>cases s:decide (b.kind=4)<;>simp[f104,e,f,g,i,j,a,h,Us,qR,k,l,r,s,nD]
def DR{d:gG}(ht:d.p 104=some uS)(a:gY)(b c:Int)(e:ju b a.w.dY.length=true)(f:ju c a.w.dY.length=true):rl prog cx d 104 [a.t,G b,G c]=some (.bool (nD (lL a.w.dY b) (lL a.w.dY c))):=iA ht SW (a,b,c) ⟨e,f⟩
end
def Ca{d:iX->Bool}{b c:iX}(a:c∈ks d b):c=b/\d b=true:=by
 unfold ks at a;split at a
 ·simp at a;exact⟨a,by assumption⟩
 ·simp at a
def Qg{e:GX}{c:iX}(h:c∈e.E0):
 (∃a b,c=gR a b/\e.vR c=true)\/(∃a f,c=gC f/\f∈e.Qw a)\/(∃a b,c=gL a b/\e.vR c=true)\/(∃a b g i,c=gA a b g i/\e.vR c=true):=by
 unfold GX.E0 at h;simp only[List.mem_append]at h;rcases h with((h|h)|h)|h
 ·rw[cH]at h;obtain⟨a,_,h⟩:=h;rw[cH]at h;obtain⟨b,_,h⟩:=h;obtain⟨rfl,d⟩:=Ca h;exact .inl ⟨a,b,rfl,d⟩
 ·rw[cH]at h;obtain⟨a,_,h⟩:=h;rw[cW]at h;obtain⟨f,j,rfl⟩:=h;exact .inr (.inl ⟨a,f,rfl,j⟩)
 ·rw[cH]at h;obtain⟨a,_,h⟩:=h;rw[cH]at h;obtain⟨b,_,h⟩:=h;obtain⟨rfl,d⟩:=Ca h;exact .inr (.inr (.inl ⟨a,b,rfl,d⟩))
 ·rw[cH]at h;obtain⟨a,_,h⟩:=h;rw[cH]at h;obtain⟨b,_,h⟩:=h;split at h
  ·rw[cH]at h;obtain⟨g,_,h⟩:=h;rw[cH]at h;obtain⟨i,_,h⟩:=h;obtain⟨rfl,d⟩:=Ca h;exact .inr (.inr (.inr ⟨a,b,g,i,rfl,d⟩))
  ·simp at h
def GX.EZ{e:GX}{d:iX}(f:d∈e.E0):e.vR d=true:=by
 rcases Qg f with⟨b,c,rfl,a⟩|⟨b,i,rfl,a⟩|⟨b,c,rfl,a⟩|⟨b,c,g,h,rfl,a⟩
 ·exact a
 ·exact(Od _ _ _ a).1
 ·exact a
 ·exact a
def ae5(a:ej):aa GX:=if a.dY.length<=16/\a.fq.dW.length<=4 then(ana a.fq a.jG.fN a.dY).map λb=>⟨a.fq,a.dY,b⟩else none
def xx.ana{b:ej}(a:xx b):ae5 b=some b.gx:=by
 unfold ae5;rw[aq ⟨a.len,a.qB⟩,UB _ _ a.run];rfl
end
noncomputable section
open Go Go.TI Tryz
attribute [-simp] List.map_take List.map_drop List.map_append fU fK fh Bool.not_or Bool.not_and
attribute [simp] fT fM
section
attribute [-simp] size_cons
def Bd{e:fc}{d:gh}{a:Int}(h:mn e d=true)(c:ju a e.fj.length=true):∃b,kT a=some a.toNat/\d.fj[a.toNat]? =some b/\m8 d a=b:=by
 rw[<-(mF h).1]at c;have⟨b,f,g⟩:=iU c;exact⟨b,fy (fI.1 c).1,f,by simp[m8,g]⟩
def IL{d:fc}{e:gh}{b:Int}(g:mn d e=true)(h:ju b d.iB.length=true):∃a c,kT b=some b.toNat/\d.iB[b.toNat]? =some a/\kT a.kY=some a.kY.toNat/\e.fj[a.kY.toNat]? =some c/\uw d e b=c:=by
 have⟨a,f,i⟩:=iU h;have⟨c,j,k,l⟩:=Bd g (uu g f);exact⟨a,c,fy (fI.1 h).1,f,j,k,by simp[uw,i,l]⟩
def BQ{e:fc}{d:gh}{a:Int}(h:mn e d=true)(c:ju a e.dW.length=true):∃b,kT a=some a.toNat/\d.dW[a.toNat]? =some b/\pQ d a=b:=by
 rw[<-(mF h).2.2]at c;have⟨b,f,g⟩:=iU c;exact⟨b,fy (fI.1 c).1,f,by simp[pQ,g]⟩
def kZ.at{b:ej}(j:kZ b){i:Int}(c:ju i b.dY.length=true):∃a:fk,b.dY[i.toNat]? =some a/\kT i=some i.toNat/\b.gx.e i=a/\ju a.eg b.fq.dW.length=true/\jN b.fq a.kind a.obj=true:=by
 have⟨a,d,f,g,h⟩:=j.ok.e c;exact⟨a,d,fy (fI.1 c).1,f,g,h⟩
def kZ.rd{w:ej}(c:kZ w){b:Int}(g:ju b w.dY.length=true):(∀d∈(w.gx.s b).fj,d.fF.length<=2000)/\(w.gx.s b).BL:=by
 have e:=c.sm.o8 (w:=w.fq) (w.dY.take b.toNat);rw[(c.ok.s g).1];exact⟨λd hl=>by have f:=e.r d hl;have h:=c.ok.len;simp at f;omega,e.a⟩
structure vH(w:ej)(c:fD):Prop where
 hw:kZ w
 hc:uI 1000000 w c
def qq{e:Type}{b:List e}{c:Int}(a:ju c b.length=true):b≠ []:=λd=>by rw[d,fI]at a;simp at a
def vH.l{c:ej}{a:fD}(b:vH c a)(d:c.dY≠ []):a.fN.fj.length<=4/\a.fN.done.length<=2/\a.fN.dW.length<=4:=by
 have e:=mF (b.hc.ft d);have f:=kW b.hw.wb;omega
def vH.sm{d:ej}{c:fD}(a:vH d c)(b:d.dY≠ []):c.fN.sm:=⟨by have:=a.l b;omega,by have:=a.l b;omega,by have:=a.l b;omega,λe f=>by have:=a.hc.rd e f;omega⟩
def vH.ev{a:ej}{b:fD}(c:vH a b):a.dY.length<=1000000:=by have:=c.hw.ok.len;omega
def vH.od{c:ej}{a:fD}(b:vH c a):a.order.length<=1000000:=by have:=b.hc.od;omega
def oQ{c:List fk}{a:Int}{b:fk}(e:0<=a)(d:c[a.toNat]? =some b):lL c a=b:=by unfold lL qJ;rw[aq e,d];rfl
def pJ:iy:=⟨ej×fD×Int,λa=>[a.1.t,a.2.1.t,G a.2.2],λa=>vH a.1 a.2.1,λa=> .bool (iP a.1 a.2.1 a.2.2),λa c b=>by simp at b;rw[show a=c from aD (ej.inj b.1) (aD (fD.inj b.2.1) b.2.2)]⟩
def JR:pJ.Ok prog cx 13:=by
 refine iq [(33,rD),(34,nq),(35,pR)] (jr 16863 [] func13) (λw=>5) (by simp[pJ]) ?_;rintro⟨a,b,d⟩ (c:vH a b) A q;simp[pJ]at q|-;obtain⟨j,k,l⟩:=q;have hE:=iP.eq_1 a b d;generalize iP a b d=v at*
 have n:=λ{g:gG} (ht:g.p 33=some rD)=>IS ht a b d c.ev c.od;by_cases f:iV a b d<0
 ·rw[aq f]at hE;simp[f13,j,k,l,n,f,hE]
 ·rw[ao f]at hE;have m:=qV f;have⟨e,h,o,x,y,z⟩:=c.hw.at m;rw[oQ (fI.1 m).1 h]at hE;have t:=c.hw.ev e (ay h);have s:a.fq.iB.length<=1099511627776:=by have:=kW c.hw.wb;omega
  have r:=λ{g:gG} (ht:g.p 34=some nq)=>xf ht a.fq b.fN d e.kind e.obj s (c.sm (qq m));have u:=λ{g:gG} (ht:g.p 35=some pR)=>Hz ht a b d e.mE c.ev t.1;cases i:je a.fq b.fN d e.kind e.obj
  ·rw[i]at hE;simp[f13,j,k,l,n,f,h,o,r,i,hE]
  ·rw[i,bg]at hE;simp[f13,j,k,l,n,f,h,o,r,i,u,hE]
def PG:ue.Ok prog cx 135:=by
 refine iq [] (jr 19 [] func135) (λf=>1) (by simp[ue]) ?_;rintro⟨e,g⟩ _ h a;simp[ue]at a|-;obtain⟨b,c⟩:=a;by_cases d:0<=e<;>simp[f135,b,c,d,ju]
def Bz{c:gG}(ht:c.p 135=some ue)(a:Int)(b:Nat):rl prog cx c 135 [G a,G b]=some (.bool (ju a b)):=iA ht PG (a,b) trivial
def En:iy:=⟨fc×gh,λa=>[a.1.t,a.2.t],λa=>mn a.1 a.2=true/\a.1.iB.length<=1000000,λa=> .bool true,λa b c=>rfl⟩
def VY:En.Ok prog cx 134:=by
 refine iq [(135,ue)] (jr 35315368591455 [] func134) (λv=>1000005) (by simp[En]) ?_;rintro⟨e,w⟩ ⟨h,r⟩ a l;simp only at h r;simp[En]at l|-;obtain⟨o,p⟩:=l;have⟨l1,l2,l3⟩:=mF h;simp[f134,o,p,l1,l2,l3];refine gu e.iB.length D (λn a d=>iE 2 d/\d.get 0=some (dS 6 0 [e.t])/\dT a 2 (.ptr 0 0 0 0)/\dT a 33 (sl (e.iB.map jq.t))/\dT a 34 (G e.iB.length)/\dT a 35 (G n)) ?_ ?_ D ⟨by exact⟨Y,Y,Y⟩,Y⟩
 ·rintro n a d m q ⟨c,i,j,k,f,g⟩;have s:=uu h (az m);have u:=c.ne (b:=0) D;simp[i,j,k,f,g,m,u,c.low,Bz,s,q];exact c.cons _
 ·rintro a d ⟨c,i,j,k,f,g⟩;simp[f,g,c.hp]
def x7:iy:=⟨fc×Int×Int,λa=>[a.1.t,G a.2.1,G a.2.2],λa=>jN a.1 a.2.1 a.2.2=true,λa=> .bool true,λa b c=>rfl⟩
def P8:x7.Ok prog cx 136:=by
 refine iq [(135,ue)] (jr 606826398900554784047567 [] func136) (λl=>1) (by simp[x7]) ?_;rintro⟨k,a,j⟩ b m f;replace b:jN k a j=true:=b;simp[x7]at f|-;obtain⟨c,d,e⟩:=f;have hr:=tK b;have g:a=1\/a=2\/a=3\/a=4\/a=5\/a=6\/a=7\/a=8\/a=9\/a=10\/a=11\/a=12\/a=13\/a=14\/a=15\/a=16\/a=17\/a=18\/a=19\/a=20\/a=21\/a=22\/a=23:=D;rcases g with rfl|rfl|rfl|rfl|rfl|rfl|rfl|rfl|rfl|rfl|rfl|rfl|rfl|rfl|rfl|rfl|rfl|rfl|rfl|rfl|rfl|rfl|rfl
 case inr.inr.inr.inr.inr.inl|inr.inr.inr.inr.inr.inr.inl|inr.inr.inr.inr.inr.inr.inr.inl|inr.inr.inr.inr.inr.inr.inr.inr.inl|inr.inr.inr.inr.inr.inr.inr.inr.inr.inl|inr.inr.inr.inr.inr.inr.inr.inr.inr.inr.inl=>
  have hl:=nz b D;obtain⟨n,h,i⟩:=iU hl;simp[jN,i]at b;simp[f136,c,d,e,Bz,hl,h,b,fy (fI.1 hl).1]
 all_goals
  simp[jN]at b;simp[f136,c,d,e,Bz,b]
def wJ:iy:=⟨List Int×Int,λa=>[sl (a.1.map (T.int .i64)),G a.2],λa=>a.1.length<=1000000,λa=> G (uj a.1 a.2 0),λa c b=>by simp at b;rw[jH (λ_ _ b=>by simpa using b) b.1,b.2]⟩
def SF:wJ.Ok prog cx 71:=by
 refine y9 (tb:=⟨pt [],ht []⟩) jg iT (jr 66483 [] func71) (λ_=>1000005) (by simp[wJ]) nl9 ?_;rintro⟨d,k⟩ hl b l;replace hl:d.length<=1000000:=hl;simp[wJ]at l|-;obtain⟨c,e⟩:=l;simp[f71,c];refine gu d.length D (λh b i=>i=hE/\uj (d.drop h) k h=uj d k 0/\dT b 0 (sl (d.map (T.int .i64)))/\dT b 1 (G k)/\dT b 7 (G d.length)/\dT b 8 (G h)) ?_ ?_ D (by simp[c,e])
 ·rintro h b i m n ⟨rfl,a,c,e,f,g⟩;rw[aH m]at a;simp only[uj]at a;simp[c,e,f,g,m];refine fw (λj=>?_) (λj=>?_)
  ·rw[aq (by simpa[eq_comm]using j)]at a;simp[<-a]
  ·rw[ao (by simpa[eq_comm]using j)]at a;simp[c,e,f,g,n,a]
 ·rintro b i ⟨rfl,a,c,e,f,g⟩;rw[bU]at a;simp only[uj]at a;simp[f,g,<-a]
def OI{c:gG}(ht:c.p 71=some wJ)(a:List Int)(b:Int)(hl:a.length<=1000000):rl prog cx c 71 [sl (a.map (T.int .i64)),G b]=some (G (uj a b 0)):=iA ht SF (a,b) hl
def oK:iy:=⟨List Int×Int,λa=>[sl (a.1.map (T.int .i64)),G a.2],λa=>a.1.length<=1000000,λa=> .bool (decide (a.2∈a.1)),λa c b=>by simp at b;rw[jH (λ_ _ b=>by simpa using b) b.1,b.2]⟩
def Mh:oK.Ok prog cx 70:=by
 refine y9 (tb:=⟨pt [(71,wJ)],ht []⟩) jg iT (jr 19 [] func70) (λe=>1) (by simp[oK]) nl9 ?_;rintro⟨d,g⟩ hl f a;replace hl:d.length<=1000000:=hl;simp[oK]at a|-;obtain⟨b,c⟩:=a;simp[f70,b,c,OI,hl,L5]
def pY{c:gG}(ht:c.p 70=some oK)(a:List Int)(b:Int)(hl:a.length<=1000000):rl prog cx c 70 [sl (a.map (T.int .i64)),G b]=some (.bool (decide (b∈a))):=iA ht Mh (a,b) hl
structure EnG(w:fc)(s:gh)(t k o:Int):Prop where
 f:mn w s=true
 th:ju t w.dW.length=true
 n:jN w k o=true
 c:w.iB.length<=1000000
 r:∀l∈s.fj,l.fF.length<=1000000
structure EnF(w:fc)(s:gh)(t k o:Int):Prop where
 f:mn w s=true
 th:ju t w.dW.length=true
 n:jN w k o=true
 e:Ao w s t k o=true
 c:w.iB.length<=1000000
 r:∀l∈s.fj,l.fF.length<=1000000
def Ob(a b:fc×gh×Int×Int×Int)(c:([a.1.t,a.2.1.t,G a.2.2.1,G a.2.2.2.1,G a.2.2.2.2]:List T)=[b.1.t,b.2.1.t,G b.2.2.1,G b.2.2.2.1,G b.2.2.2.2]):a=b:=by
 simp at c;exact aD (fc.inj c.1) (aD (gh.inj c.2.1) (aD c.2.2.1 (aD c.2.2.2.1 c.2.2.2.2)))
def AO:iy:=⟨fc×gh×Int×Int×Int,λa=>[a.1.t,a.2.1.t,G a.2.2.1,G a.2.2.2.1,G a.2.2.2.2],λa=>EnG a.1 a.2.1 a.2.2.1 a.2.2.2.1 a.2.2.2.2/\a.2.2.2.1≠1/\a.2.2.2.1≠17/\(pQ a.2.1 a.2.2.1).jf=2,λa=> .bool (Ao a.1 a.2.1 a.2.2.1 a.2.2.2.1 a.2.2.2.2),λa b c=>by rw[Ob a b c]⟩
def Sq:AO.Ok prog cx 137:=by
 refine iq [(70,oK)] (jr 5868843906288553182383292937158044313155908148351 [] func137) (λz=>1) (by simp[AO]) ?_;rintro⟨H,E,y,a,x⟩ ⟨⟨f,ht,g,u,hr⟩,v,w,b⟩ F m;simp only at f ht g u hr v w b;simp[AO]at m|-;obtain⟨c,d,h,e,j⟩:=m;have C:=tK g;obtain⟨l1,l2,l3⟩:=mF f;have hc:a=2\/a=3\/a=4\/a=5\/a=12\/a=13\/(a=6\/a=7\/a=8\/a=9\/a=10\/a=11)\/(a=14\/a=15)\/(a=16\/a=18\/a=19)\/(a=20\/a=21)\/(a=22\/a=23):=D;rcases hc with rfl|rfl|rfl|rfl|rfl|rfl|hc|hc|hc|hc|hc
 case inr.inr.inr.inr.inr.inr.inl=>
  obtain⟨i,a1,a2,a3⟩:=Bd f (nz g D);have hl:=hr i (ay a2);rcases hc with rfl|rfl|rfl|rfl|rfl|rfl<;>cases l:decide (i.jl=-1)<;>simp[f137,c,d,h,e,j,a1,a2,pY,hl,Ao,b,a3,l]
 case inr.inr.inr.inr.inr.inr.inr.inl=>
  obtain⟨i,a1,a2,a3⟩:=BQ f ht;rw[a3]at b;rcases hc with rfl|rfl<;>simp[f137,c,d,h,e,a1,a2,Ao,a3,b]
 case inr.inr.inr.inr.inr.inr.inr.inr.inl=>
  obtain⟨A,i,n,o,p,q,r⟩:=IL f (pL g D);rcases hc with rfl|rfl|rfl<;>simp[f137,c,d,h,e,j,n,o,p,q,Ao,b,r]
 case inr.inr.inr.inr.inr.inr.inr.inr.inr.inl=>
  obtain⟨i,a1,a2,a3⟩:=BQ f (yM g D);rcases hc with rfl|rfl<;>cases l:decide (x=y)<;>simp[f137,c,d,h,e,j,a1,a2,Ao,b,a3,l]
 case inr.inr.inr.inr.inr.inr.inr.inr.inr.inr=>
  have k:=tL g D;rw[<-l2]at k;obtain⟨B,s,t⟩:=iU k;rcases hc with rfl|rfl<;>simp[f137,c,d,e,j,s,fy (fI.1 k).1,Ao,b,FD,t]
 all_goals
  simp[f137,c,d,h,e,Ao,b]
def oJ:iy:=⟨fc×gh×Int×Int×Int,λa=>[a.1.t,a.2.1.t,G a.2.2.1,G a.2.2.2.1,G a.2.2.2.2],λa=>EnG a.1 a.2.1 a.2.2.1 a.2.2.2.1 a.2.2.2.2,λa=> .bool (Ao a.1 a.2.1 a.2.2.1 a.2.2.2.1 a.2.2.2.2),λa b c=>by rw[Ob a b c]⟩
def Mf:oJ.Ok prog cx 96:=by
 refine iq [(134,En),(135,ue),(136,x7),(137,AO)] (jr 4605278686335 [] func96) (λI=>1) (by simp[oJ]) ?_;rintro⟨b,e,h,a,c⟩ i L q;replace i:EnG b e h a c:=i;have⟨l,ht,r,E,hr⟩:=id i;simp[oJ]at q|-;obtain⟨B,C,n,o,k⟩:=q;have y:∀{d:gG},d.p 134=some En->rl prog cx d 134 [b.t,e.t]=some (.bool true):=λht=>iA ht VY (b,e) ⟨l,E⟩;have z:∀{d:gG},d.p 136=some x7->rl prog cx d 136 [b.t,G a,G c]=some (.bool true):=λht=>iA ht P8 (b,a,c) r;have⟨m,a1,a2,a3⟩:=BQ l ht;simp[f96,B,C,n,o,k,y,z,Bz,ht,a1,a2];by_cases f:a=1
 ·subst f;simp[Ao,a3]
 by_cases g:a=17
 ·subst g;have⟨J,K,s,u,v,w,x⟩:=IL l (pL r D);cases F:decide (m.jf=4)<;>cases H:decide (m.cond=c)<;>simp[k,s,u,v,w,Ao,a3,x,F,H]
 by_cases j:m.jf=2
 ·have A:∀{d:gG},d.p 137=some AO->rl prog cx d 137 [b.t,e.t,G h,G a,G c]=some (.bool (Ao b e h a c)):=λht=>iA ht Sq (b,e,h,a,c) ⟨i,f,g,by rw[a3];exact j⟩;simp[n,o,k,f,g,j,A]
 ·have:Ao b e h a c=false:=by unfold Ao;rw[ao f,ao g,a3,aq j]
  simp[f,g,j,this]
def HB{a:gG}(ht:a.p 96=some oJ){w:fc}{s:gh}{t k o:Int}(b:EnG w s t k o):rl prog cx a 96 [w.t,s.t,G t,G k,G o]=some (.bool (Ao w s t k o)):=iA ht Mf (w,s,t,k,o) b
def QA{b:gG}(ht:b.p 96=some oJ){w:fc}{s:gh}{t k o:Int}(a:EnF w s t k o):rl prog cx b 96 [w.t,s.t,G t,G k,G o]=some (.bool true):=by rw[HB ht ⟨a.f,a.th,a.n,a.c,a.r⟩,a.e]
structure Lo where
 (v:T) (es:List T)
def uh(e:Nat)(a:Lo)(c:List T)(b:H):Prop:=c=[a.v]/\b.jM a.v=some a.es/\(∀d∈a.es,d.cells.length=e)/\a.es.length<=1000000/\iE 0 b
def qj(f:Nat)(e:Lo)(g:List T)(b:H)(d:T)(c:H):Prop:=Gr c d f e.es/\Nb b c/\∀a,eG d=some a->b.size<=a
def xc{a bytes:Nat}{l:aj}(x:F4 prog cx l (.clone a bytes))(v:1<=bytes)(w:bytes<=1000):(jY Lo (uh a) (qj a)).Ok prog cx l:=by
 intro i b ⟨⟨p,e⟩,y⟩;have n:∀h:Lo,uh a h i b->∃d c,Ez (.clone a bytes) i b=some (d,c)/\qj a h i b d c:=by
  rintro⟨p,e⟩ ⟨rfl,g,m,hl,o⟩;simp only at g m hl;show∃d c,(Z (b.jM p) λe=>List.casesOn e (some (dR,b)) λ_ _=>b.js a bytes [] e)=some (d,c)/\_;rw[g,eJ];cases e with
  |nil=>exact⟨_,_,rfl,Gr.nil _ _,Nb.refl o,λr j=>by simp at j⟩
  |cons H F=>
   refine⟨_,_,qy m v (aQ (Nat.mul_le_mul hl w) D),Gr.new (ep:=0) (ver:=0) (ex:=false) Y,(Nb.refl o).cons _,λr j=>by simp at j;omega⟩
 have⟨d,c,k,C⟩:=n _ y;refine⟨d,c,λh g=>?_,λq A B s z u=>x _ _ _ _ k q A B s z u⟩;have⟨r2,E,f,t⟩:=n h g;rw[k]at f;simp only[ar,aB]at f;rw[f.1,f.2];exact t
def A4:(jY Lo (uh 1) (qj 1)).Ok prog cx 59:=xc (wz (fn:=f59) (t:=38) (tb:=4) (te:=D3) iT func59 dU dU dU dU dU dU dU) dP (bytes:=8) dP 
def EN:(jY Lo (uh 1) (qj 1)).Ok prog cx 58:=xc (wz (fn:=f58) (t:=33) (tb:=4) (te:=Vg) iT func58 dU dU dU dU dU dU dU) dP (bytes:=1) dP 
def JW:(jY Lo (uh 3) (qj 3)).Ok prog cx 95:=xc (wz (fn:=f95) (t:=34) (tb:=4) (te:=CD) iT func95 dU dU dU dU dU dU dU) dP (bytes:=24) dP 
def LkG(f:H)(d:Nat->Prop)(e:T)(c:em):Prop:=∃a,e= .agg [G c.jl,a]/\Gr f a 1 (ij c.fF)/\∀b,eG a=some b->d b
def LkD(b:List T):Prop:=∀(c d:Nat) (e f g h:T) (a:Nat),b[c]? =some (.agg [g,e])->b[d]? =some (.agg [h,f])->eG e=some a->eG f=some a->c=d
def Yp(c:gh)(j:List T)(h:H)(i:T)(b:H):Prop:=∃d e f g,i=Pb c d e f/\Dp h.size b.size b d e f g c/\Nb h b/\jh (LkG b λa=>h.size<=a/\a<b.size/\eG d≠some a/\eG e≠some a/\eG f≠some a) g c.fj/\LkD g
structure ClO(S:gh)(h h':H)(i:Nat)(es:List T)(ver:Nat):Prop where
 nb:Nb h h'
 z:h.size+3<=h'.size
 b0:h'.get h.size=some (dS 4 0 [S.t])
 b1:h'.get (h.size+1)=some (dS 4 0 [.agg [dR,G 0,dR,dR]])
 b2:h'.get (h.size+1+1)=some ⟨2,0,ver,true,false,es⟩
 l:es.length=S.fj.length
 c:∀e∈es,∃x y,e= .agg [x,y]
 d:LkD es
 bd:∀(j:Nat) (o x:T) (c:Nat),es[j]? =some (.agg [o,x])->eG x=some c->c<h'.size
 a:jh (LkG h' λk=>h.size+3<=k/\k<h'.size) (es.take i) (S.fj.take i)
def SY:(jY gh GU Yp).Ok prog cx 97:=by
 refine jV (tb:=⟨pt [],ht [(59,jY Lo (uh 1) (qj 1)),(58,jY Lo (uh 1) (qj 1)),(95,jY Lo (uh 3) (qj 3))]⟩) jg iT (jr 30783 [(5,[(3,6)])] func97) (λ_ _=>1000005) (λl a d c9=>by obtain⟨rfl,_⟩:=c9;simp[f97]) ?_;rintro f _ d ⟨rfl,dm,hl,ef,ht,hr⟩ z b8;simp at b8;have cp:=dm.hr;simp[f97,b8,show f.fj.length*32<=70368744177664 by omega];refine gu f.fj.length D (λl z i=>∃v ver,ClO f d i l v ver/\dT z 1 (.ptr d.size 0 0 0)/\dT z 2 (.ptr (d.size+1) 0 0 0)/\dT z 3 (.arr (d.size+1+1) 0 0 f.fj.length false)/\dT z 11 (sl (f.fj.map em.t))/\dT z 12 (G f.fj.length)/\dT z 13 (G l)) ?_ ?_ D ?_
 ·rintro l z i a7 c6 ⟨v,ver,⟨x,de,an,bn,bp,a6,bN,bS,aX,al⟩,V,bH,aE,bC,av,aA⟩;have bi:iE 0 i:=⟨x.ok.hp,x.ok.low,aw _⟩;have eh:=hr f.fj[l] (aC a7);have dd:f.fj.take (l+1)=f.fj.take l++[f.fj[l]]:=aM a7;have⟨eb,ec,c7⟩:=bN v[l] (aC D);have eo:(d.size+1+1=i.size)=False:=dN;have dk:=bi.low;simp[aE,bC,av,aA,a7,dk];generalize f.fj[l]=w at*
  have bX:=bi.cons (dS 2 1 [w.t]);refine lH A4 Y ⟨sl (ij w.fF),ij w.fF⟩ ⟨rfl,Y,by simp[T.cells],dN,bX⟩ ?_;rintro r N ⟨J,y,aN⟩;simp only at J;have dv:=y.ok.sz;simp at dv;have a8:N.get (d.size+1+1)=some ⟨2,0,ver,true,false,v⟩:=(y.get (d.size+1+1) dN).trans (by rw[ez,ao D];exact bp);have er:fQ (i.cons (dS 2 1 [w.t])) N (d.size+1+1)=true:=fZ (y.get _ dN);have ds:fQ (i.cons (dS 2 1 [w.t])) N i.size=true:=fZ (y.get _ Y);simp[V,bH,aE,bC,av,aA,J.iN,J.cells,a8,ds,a7,a6,c7,eZ,c6];have ap:∀c,c<i.size->c≠d.size+1+1->(fg N (d.size+1+1) ⟨2,0,ver+1,true,false,v.set l (.agg [G w.jl,r])⟩).get c=i.get c:=λc e O=>by
   rw[ee a8,ao O];exact(y.get c dN).trans (by rw[ez,ao D])
  have ea:=x.ok.sz;refine⟨v.set l (.agg [G w.jl,r]),ver+1,⟨⟨(⟨y.ok.hp,y.ok.low,aw _⟩:iE 0 N).put _ _|>.hp,(⟨y.ok.hp,y.ok.low,aw _⟩:iE 0 N).put _ _|>.low,dN⟩,λc e=>(ap c D D).trans (x.get c e)⟩,dN,(ap _ D D).trans an,(ap _ D D).trans bn,by rw[ee a8,aq rfl],by simpa using a6,λC E=>?_,?_,?_,?_⟩
  ·rcases cE E with q|q
   ·exact bN C q
   ·exact⟨_,_,q⟩
  ·intro P k B g o cb c h A j p;rw[bR]at h A;split at h<;>split at A
   ·omega
   ·split at h
    ·simp only[ar,T.agg.injEq,bV,and_true]at h;have:=aN c (by rw[h.2];exact j);have:=aX k _ _ c A p;simp at*;omega
    ·simp at h
   ·split at A
    ·simp only[ar,T.agg.injEq,bV,and_true]at A;have:=aN c (by rw[A.2];exact p);have:=aX P _ _ c h j;simp at*;omega
    ·simp at A
   ·exact bS P k B g o cb c h A j p
  ·intro P o B c h j;rw[bR]at h;rw[ig];split at h
   ·split at h
    ·simp only[ar,T.agg.injEq,bV,and_true]at h;have⟨_,_,_,_,p,_⟩:=J.box (b:=c) (by rw[h.2];exact j);exact H.fG p
    ·simp at h
   ·have:=aX P _ _ c h j;omega
  ·rw[dd,aM dN];refine jh.append ?_ (.cons ?_ .nil)
   ·rw[List.take_set_of_le (au _)];exact al.imp λC m ⟨ae,R,S,u⟩=>⟨ae,R,S.mono λc e=>ap c (u c e).2 (by have:=(u c e).1;omega),λc e=>⟨(u c e).1,by have:=(u c e).2;simp;omega⟩⟩
   ·simp only[List.getElem_set_self];refine⟨r,rfl,(J.mono λc e=>by rw[ee a8,ao (by have:=aN c e;simp at this;omega)]),λc e=>⟨by have:=aN c e;simp at this;omega,?_⟩⟩;have⟨_,_,_,_,p,_⟩:=J.box e;have:=H.fG p;simpa using this
 ·rintro z i ⟨v,ver,⟨x,de,an,bn,bp,a6,bN,bS,aX,al⟩,V,bH,aE,bC,av,aA⟩;have bi:iE 0 i:=⟨x.ok.hp,x.ok.low,aw _⟩;have bA:∀g c,(fg i d.size g).get c=if c=d.size then some g else i.get c:=λg c=>ee an g c;simp[V,aE,av,aA,an,bA];have⟨L,W⟩:∃L,L=fg i d.size (dS 4 1 [.agg [.arr (d.size+1+1) 0 0 f.fj.length false,G f.tx,sl (f.done.map T.bool),sl (f.dW.map dZ.t)]]):=⟨_,rfl⟩;have et:L.size=i.size:=by rw[W];simp
  have dn:iE 0 L:=by rw[W];exact bi.put _ _
  have gA:∀c,c≠d.size->L.get c=i.get c:=λc e=>by rw[W,bA,ao e]
  have c1:L.get d.size=some (dS 4 1 [.agg [.arr (d.size+1+1) 0 0 f.fj.length false,G f.tx,sl (f.done.map T.bool),sl (f.dW.map dZ.t)]]):=by rw[W,bA,aq rfl]
  rw[<-W];refine jm EN Y ⟨sl (f.done.map T.bool),f.done.map T.bool⟩ ⟨rfl,Y,by intro C E;obtain⟨b,_,rfl⟩:=List.mem_map.1 E;rfl,dN,dn⟩ ?_;rintro I s ⟨U,Q,cF⟩;simp only at U;have eu:=Q.ok.sz;have b9:=(Q.get d.size D).trans c1;have bB:∀g c,(fg s d.size g).get c=if c=d.size then some g else s.get c:=λg c=>ee b9 g c;simp[V,U.iN,U.cells,b9,bB,eZ];have⟨M,X⟩:∃M,M=fg s d.size (dS 4 2 [.agg [.arr (d.size+1+1) 0 0 f.fj.length false,G f.tx,I,sl (f.dW.map dZ.t)]]):=⟨_,rfl⟩;have ey:M.size=s.size:=by rw[X];simp
  have bX:iE 0 M:=by rw[X];exact(⟨Q.ok.hp,Q.ok.low,aw _⟩:iE 0 s).put _ _
  have bu:∀c,c≠d.size->M.get c=s.get c:=λc e=>by rw[X,bB,ao e]
  have c4:M.get d.size=some (dS 4 2 [.agg [.arr (d.size+1+1) 0 0 f.fj.length false,G f.tx,I,sl (f.dW.map dZ.t)]]):=by rw[X,bB,aq rfl]
  rw[<-X];refine jm JW Y ⟨sl (f.dW.map dZ.t),f.dW.map dZ.t⟩ ⟨rfl,Y,by intro C E;obtain⟨b,_,rfl⟩:=List.mem_map.1 E;rfl,dN,bX⟩ ?_;rintro Z n ⟨gT,F,cL⟩;simp only at gT;have eA:=F.ok.sz;have PW:iE 0 n:=⟨F.ok.hp,F.ok.low,aw _⟩;have ca:=(F.get d.size D).trans c4;have di:n.get (d.size+1)=_:=(F.get (d.size+1) D).trans ((bu _ D).trans ((Q.get _ D).trans ((gA _ D).trans bn)));have b7:∀g c,(fg n d.size g).get c=if c=d.size then some g else n.get c:=λg c=>ee ca g c;have K:∀g B c,(fg (fg n d.size g) (d.size+1) B).get c=if c=d.size+1 then some B else if c=d.size then some g else n.get c:=λg B c=>by
   rw[nM (by simp[PW.hp]) dN,b7]
  simp[V,bH,gT.iN,gT.cells,ca,di,b7,K,eZ];rw[bL D,aI]at al;have bs:∀c,c<i.size->c≠d.size->n.get c=i.get c:=λc e O=>(F.get c D).trans ((bu c O).trans ((Q.get c D).trans (gA c O)));have cX:∀c,c<s.size->c≠d.size->n.get c=s.get c:=λc e O=>(F.get c D).trans (bu c O);have ea:=x.ok.sz;have bT:∀c,eG I=some c->i.size<=c/\c<s.size:=λc e=>⟨by have:=cF c e;omega,by have⟨_,_,_,_,p,_⟩:=U.box e;exact H.fG p⟩;have bW:∀c,eG Z=some c->s.size<=c/\c<n.size:=λc e=>⟨by have:=cL c e;omega,by have⟨_,_,_,_,p,_⟩:=gT.box e;exact H.fG p⟩;have b6:jh (LkG (mK d (fg (fg n d.size (dS 4 3 [.agg [.arr (d.size+1+1) 0 0 f.fj.length false,G f.tx,I,Z]])) (d.size+1) (dS 4 1 [.agg [.arr (d.size+1+1) 0 0 f.fj.length false,G f.tx,I,Z]]))) λc=>d.size<=c/\c<n.size/\eG (.arr (d.size+1+1) 0 0 f.fj.length false)≠some c/\eG I≠some c/\eG Z≠some c) v f.fj:=al.imp λC w ⟨ae,R,S,u⟩=>⟨ae,R,S.mono λc e=>by
   have:=u c e;rw[il,K,ao D,ao D,bs _ D D],λc e=>by
   have:=u c e;exact⟨D,D,dN,λq=>by have:=bT c q;omega,λq=>by have:=bW c q;omega⟩⟩
  refine⟨.arr (d.size+1+1) 0 0 f.fj.length false,I,Z,v,rfl,⟨?_,U.mono λc e=>?_,gT.mono λc e=>?_,b6.imp λC w ⟨ae,R,S,u⟩=>⟨ae,R,.inr S,by simpa using u⟩,λc e=>?_⟩,⟨⟨?_,?_,?_⟩,λc e=>?_⟩,by simpa using b6,bS⟩
  ·rw[<-a6];exact Gr.new (ep:=0) (ver:=ver) (ex:=true) (by rw[il,K,ao D,ao D,bs _ D D];exact bp)
  ·have:=bT c e;rw[il,K,ao D,ao D,cX _ D D]
  ·have:=bW c e;rw[il,K,ao D,ao D]
  ·simp;rcases e with q|q|q
   ·simp at q;omega
   ·have:=bT c q;omega
   ·have:=bW c q;omega
  ·exact(((PW.put _ _).put _ _).out d).hp
  ·exact(((PW.put _ _).put _ _).out d).low
  ·simp;omega
  ·rw[il,K,ao D,ao D,bs _ D D];exact x.get c e
 ·simp;refine⟨List.replicate f.fj.length (.agg [G 0,dR]),0,⟨(((Nb.refl cp).cons _).cons _).cons _|>.ok,λc e=>(((((Nb.refl cp).cons _).cons _).cons _).get c e).trans (iI d c)⟩,Y,Y,Y,Y,Y,λC E=>⟨_,_,(bY E)⟩,?_,?_,.nil⟩
  ·intro P k B g o cb c h _ j _;have:=bY (ay h);simp only[T.agg.injEq,bV,and_true]at this;rw[this.2]at j;simp at j
  ·intro P o B c h j;have:=bY (ay h);simp only[T.agg.injEq,bV,and_true]at this;rw[this.2]at j;simp at j
def yB:iy:=⟨dZ×Int,λa=>[a.1.t,G a.2],λa=>True,λa=> .bool (decide (a.1.jf=3)&&decide (a.1.cond=a.2)),λa c b=>by simp at b;rw[dZ.inj b.1,b.2]⟩
def Sd:yB.Ok prog cx 141:=by
 refine iq [] (jr 23 [] func141) (λd=>1) (by simp[yB]) ?_;rintro⟨f,e⟩ _ g a;simp[yB]at a|-;obtain⟨b,c⟩:=a;simp[f141,b,c]
def Oy{c:gG}(ht:c.p 141=some yB)(a:dZ)(b:Int):rl prog cx c 141 [a.t,G b]=some (.bool (decide (a.jf=3)&&decide (a.cond=b))):=iA ht Sd (a,b) trivial
def O6(d:Int):∀(a c:List dZ) (b:Nat),iW d (a++c) b=iW d a b++iW d c (b+a.length):=by
 intro a;induction a with
 |nil=>intro c b;rfl
 |cons f a e=>intro c b;simp only[cM,iW,e,aP];rw[show b+(a.length+1)=b+1+a.length by omega];split<;>rfl
def DZ(c:Int)(b:List dZ){a:Nat}(d:a<b.length):iW c (b.take (a+1)) 0=iW c (b.take a) 0++(if b[a].jf=3/\b[a].cond=c then [(a:Int)]else []):=by
 rw[aM d,O6,List.length_take,cy D];simp[iW]
def ou(a:Int)(W:List Int):Int:=if a∈W then a else W.headD (-1)
structure Lh where
 (S:gh) (c0 c2 c3:T) (c wk:Int)
structure abb(h h':H)(c3:T)(l:List dZ):Prop where
 g:Gr h' c3 3 (l.map dZ.t)
 ok:iE h.size h'
 fr:∀c,c<h.size->eG c3≠some c->h'.get c=h.get c
def Yg(a:Lh)(d:List T)(b:H):Prop:=d=[Pb a.S a.c0 a.c2 a.c3,G a.c,G a.wk]/\Gr b a.c3 3 (a.S.dW.map dZ.t)/\iE 0 b/\a.S.dW.length<=1000000
def RT(a:Lh)(g:List T)(d:H)(f:T)(e:H):Prop:=∃b,f= G b/\b=ou a.wk (iW a.c a.S.dW 0)/\abb d e a.c3 (if iW a.c a.S.dW 0=[]then a.S.dW else a.S.dW.modify b.toNat (lx 4))
def PD{wk:Int}{W:List Int}{b:Nat}(d:∀c∈W,0<=c/\c<b):ou wk (W++[(b:Int)])=if ou wk W<0\/(b:Int)=wk then(b:Int)else ou wk W:=by
 unfold ou;by_cases a:wk∈W
 ·have:=d wk a;rw[aq (by simp[a]),aq a,ao D]
 ·rw[ao a];by_cases e:(b:Int)=wk
  ·subst e;rw[aq Y,aq (.inr rfl)]
  ·rw[ao (by simp[a];omega)];cases W with
   |nil=>simp
   |cons c W=>have:=d c Y;simp;intro f;omega
def Su:(jY Lh Yg RT).Ok prog cx 102:=by
 refine jV (tb:=⟨pt [(141,yB)],ht []⟩) jg iT (jr 9126837199 [] func102) (λ_ _=>1000005) (λi a d bu=>by obtain⟨rfl,_⟩:=bu;simp[f102]) ?_;rintro⟨⟨L,a7,bN,b⟩,al,an,N,c,wk⟩ _ d ⟨rfl,m,a6,hl⟩ g av;simp only at m hl;simp[Pb]at av;obtain⟨bi,h,p⟩:=av;have aN:=λh:H=>m.len (cx:=cx) h Q7 _ rfl;rw[aG]at aN;have ae:∀e,eG N=some e->e<d.size:=λe bs=>by obtain⟨_,_,_,_,bA,_⟩:=m.box bs;exact H.fG bA
 simp[f102,bi,aN];refine gu b.length D (λi g h'=>Nb d h'/\d.size<h'.size/\h'.get d.size=some (dS 4 0 [.agg [al,G a7,an,N]])/\dT g 1 (G c)/\dT g 2 (G wk)/\dT g 3 (.ptr d.size 0 0 0)/\dT g 7 (G (ou wk (iW c (b.take i) 0)))/\dT g 11 N/\dT g 12 (G b.length)/\dT g 13 (G i)) ?_ ?_ D ?_
 ·rintro i g h' S aA ⟨f,bB,M,h,p,K,n,J,z,A⟩;have v:iE 0 h':=⟨f.ok.hp,f.ok.low,aw _⟩;obtain⟨e,O,X,P,a8,C,r,j,T⟩:=m.at (x:=b[i].t) (i:=i) (by simp[S]);rw[aG]at C T;subst C;have o:=(f.get e (H.fG r)).trans r;have bS:(e=h'.size)=False:=by have:=H.fG o;simp;omega
  have bC:=v.low;have V:=DZ c b S;simp[h,p,n,J,z,A,S,o,j,bC,Oy];generalize b[i]=l at*
  have bn:∀x∈iW c (b.take i) 0,0<=x/\x<i:=λx j=>by
   obtain⟨u,y,E⟩:=vK j;simp at E;omega
  have Q:=PD (wk:=wk) bn;have aX:=f.cons (dS 3 1 [l.t]);have Z:(h'.cons (dS 3 1 [l.t])).get d.size=some (dS 4 0 [.agg [al,G a7,an,.arr e O 0 b.length false]]):=by rw[ez,ao D];exact M
  refine fw (λq=>?_) (λq=>?_)
  ·simp only[ax,cr,aK]at q;rw[aq ⟨q.1.1,q.1.2⟩]at V;rw[aq q.2,<-V]at Q;simp[h,p,K,J,z,A,aA];exact⟨aX,D,by simpa using Z,Q.symm⟩
  ·simp[h,p,K,n,J,z,A,aA];refine⟨aX,D,by simpa using Z,?_⟩;rw[V];split
   ·rename_i aE;simp only[Bool.and_eq_false_iff,cP,bZ]at q;rw[Q,ao];rcases q with(q|q)|q
    ·exact absurd aE.1 q
    ·exact absurd aE.2 q
    ·rintro(k|k)
     ·exact q.1 k
     ·exact q.2 k
   ·simp
 ·rintro g h' ⟨f,bB,M,h,p,K,n,J,z,A⟩;rw[aI]at n;simp[n,z,A];have v:iE 0 h':=⟨f.ok.hp,f.ok.low,aw _⟩;refine fw (λq=>?_) (λq=>?_)
  ·have q:0<=ou wk (iW c b 0):=by simpa using q
   have s:ou wk (iW c b 0)∈iW c b 0:=by
    generalize iW c b 0=W at*
    unfold ou at*
    split
    ·assumption
    ·rename_i F;rw[ao F]at q;cases W with
     |nil=>simp at q
     |cons x W=>simp
   obtain⟨u,y,E⟩:=vK s;have U:iW c b 0≠ []:=λk=>by rw[k]at s;simp at s
   obtain⟨l,ht⟩:∃l,b[u]? =some l:=⟨_,az E⟩;obtain⟨e,O,X,P,a8,C,r,j,T⟩:=m.at (x:=l.t) (i:=u) (by simp[ht]);rw[aG]at C T;subst C;have o:=(f.get e (H.fG r)).trans r;simp at y;simp[K,n,M,y,o,j,E];refine⟨_,rfl,y.symm,?_⟩;simp only;rw[ao U,cm,pM ht];have bH:=H.fG r;refine⟨?_,⟨((v.put e _).out d).hp,((v.put e _).out d).low,dN⟩,λI B F=>?_⟩
   ·have ap:=(m.mono (h':=h') λw R=>f.get w (ae w R)).setAt rfl o u (lx 4 l).t (h':=mK d (fg h' e ⟨3,O,X+1,P,false,a8.set u (lx 4 l).t⟩)) (ver2:=X+1) (ex2:=P) (by rw[il,ee o,aq rfl]);rw[<-aU]at ap;exact ap
   ·simp at F;rw[il,ee o,ao D];exact f.get I B
  ·have q:¬0<=ou wk (iW c b 0):=by simpa using q
   have U:iW c b 0=[]:=by
    generalize bp:iW c b 0=W at*
    have s:∀x∈W,0<=x:=λx j=>by rw[<-bp]at j;obtain⟨u,y,E⟩:=vK j;omega
    unfold ou at q;split at q
    ·rename_i F;exact absurd (s _ F) q
    ·cases W with
     |nil=>rfl
     |cons x W=>have:=s x Y;simp at q;omega
   simp[n];refine⟨_,rfl,rfl,?_⟩;simp only;rw[aq U];exact⟨(m.mono (h':=h') λw R=>f.get w (ae w R)).out d,⟨(v.out d).hp,(v.out d).low,dN⟩,λI B _=>(il d h' I).trans (f.get I B)⟩
 ·simp;exact⟨⟨((Nb.refl a6.hr).cons _).ok,λc B=>(((Nb.refl a6.hr).cons _).get c B).trans (iI d c)⟩,h,p,by simp[ou,iW]⟩
def EP(b:Int)(a:dZ):dZ:=if a.jf=3/\a.cond=b then lx 4 a else a
def Yh(a:Lh)(d:List T)(b:H):Prop:=d=[Pb a.S a.c0 a.c2 a.c3,G a.c]/\Gr b a.c3 3 (a.S.dW.map dZ.t)/\iE 0 b/\a.S.dW.length<=1000000
def RU(a:Lh)(f:List T)(b:H)(e:T)(d:H):Prop:=e= G (iW a.c a.S.dW 0).length/\abb b d a.c3 (a.S.dW.map (EP a.c))
def JJ:(jY Lh Yh RU).Ok prog cx 103:=by
 refine jV (tb:=⟨pt [(141,yB)],ht []⟩) jg iT (jr 270071 [] func103) (λ_ _=>1000005) (λi a d bn=>by obtain⟨rfl,_⟩:=bn;simp[f103]) ?_;rintro⟨⟨L,bB,bH,b⟩,aA,aE,v,e,bW⟩ _ d ⟨rfl,C,an,hl⟩ l V;simp only at C hl;simp[Pb]at V;obtain⟨a6,m⟩:=V;have al:=λm:H=>C.len (cx:=cx) m Q7 _ rfl;rw[aG]at al;have T:∀f,eG v=some f->f<d.size:=λf F=>by obtain⟨_,_,_,_,bs,_⟩:=C.box F;exact H.fG bs
 simp[f103,a6,al];refine gu b.length D (λi l h'=>iE d.size h'/\d.size<h'.size/\h'.get d.size=some (dS 4 0 [.agg [aA,G bB,aE,v]])/\(∀c,c<d.size->eG v≠some c->h'.get c=d.get c)/\Gr h' v 3 (((b.take i).map (EP e)++b.drop i).map dZ.t)/\dT l 1 (G e)/\dT l 2 (.ptr d.size 0 0 0)/\dT l 5 (G (iW e (b.take i) 0).length)/\dT l 9 v/\dT l 10 (G b.length)/\dT l 11 (G i)) ?_ ?_ D ?_
 ·rintro i l h' n W ⟨u,R,K,B,r,m,N,z,E,w,y⟩;have bA:iE 0 h':=⟨u.hp,u.low,aw _⟩;have Z:((b.take i).map (EP e)++b.drop i)[i]? =some b[i]:=by
   rw[cZ dN];simp[cy (show i<=b.length by omega),n]
  obtain⟨f,aN,av,U,bC,X,O,ae,bi⟩:=r.at (x:=b[i].t) (i:=i) (by simp[Z]);have a8:(((b.take i).map (EP e)++b.drop i).map dZ.t).length=b.length:=dN;rw[a8]at X bi;subst X;have bS:(f=h'.size)=False:=by have:=H.fG O;simp;omega
  have F:f<d.size:=T f rfl;have bu:=bA.low;have I:=DZ e b n;have bN:(iW e (b.take i) 0).length<=i:=by have:=D0 e (b.take i) 0;simp at this;omega
  have a7:binop .add (G ((iW e (b.take i) 0).length:Int)) (G 1)=some (G (((iW e (b.take i) 0).length:Int)+1)):=iZ D D;have Q:(b.take (i+1)).map (EP e)++b.drop (i+1)=((b.take i).map (EP e)++b.drop i).set i (EP e b[i]):=by
   rw[List.set_append_right _ _ dN,aM n,List.map_append,aH n];simp[cy (show i<=b.length by omega)];rw[aH n];rfl
  simp[m,E,w,y,n,O,ae,bu,Oy];have A:EP e b[i]=if b[i].jf=3/\b[i].cond=e then lx 4 b[i]else b[i]:=rfl;generalize b[i]=h at*
  have ap:=u.cons (dS 3 1 [h.t]);have q:∀c,c<h'.size->(h'.cons (dS 3 1 [h.t])).get c=h'.get c:=λc g=>by rw[ez,ao D]
  refine fw (λp=>?_) (λp=>?_)
  ·simp only[ax,aK]at p;rw[aq p]at I A;have P:=(q f D).trans O;have S:=(q d.size R).trans K;have bT:(f=d.size)=False:=dN;simp[m,N,z,E,w,y,S,P,ae,n,a7,W];have M:∀J c,(fg (h'.cons (dS 3 1 [h.t])) f J).get c=if c=f then some J else(h'.cons (dS 3 1 [h.t])).get c:=λJ c=>ee P J c;refine⟨ap.put _ _,D,by rw[M,ao D];exact S,λc g s=>by rw[M,ao (λp=>s p.symm),q c D];exact B c g (by simpa using s),?_,by rw[I];simp⟩;have aX:=r.mono (h':=h'.cons (dS 3 1 [h.t])) λc g=>q c (by simp at g;omega);have:=aX.setAt rfl P i (lx 4 h).t (h':=fg (h'.cons (dS 3 1 [h.t])) f ⟨3,aN,av+1,U,false,bC.set i (lx 4 h).t⟩) (ver2:=av+1) (ex2:=U) (by rw[M,aq rfl]);rw[<-aU,<-A,<-Q]at this;rw[A]at this;exact this
  ·rw[ao (by simpa using p)]at I A;simp[m,N,z,E,w,y,W];refine⟨ap,D,by simpa using(q d.size R).trans K,λc g s=>by rw[ao D];exact B c g (by simpa using s),?_,by rw[I];simp⟩;have bp:((b.take i).map (EP e)++b.drop i).set i h=(b.take i).map (EP e)++b.drop i:=by
    apply dh;intro j;rw[bR];split
    ·rename_i k;subst k;rw[Z];simp;omega
    ·rfl
   rw[A,bp]at Q;have:=r.mono (h':=h'.cons (dS 3 1 [h.t])) λc g=>q c (by simp at g;omega);rw[<-Q]at this;simpa using this
 ·rintro l h' ⟨u,R,K,B,r,m,N,z,E,w,y⟩;rw[aI,bU,bG]at r;rw[aI]at z;simp[z,w,y];exact⟨rfl,r.out d,⟨(u.out d).hp,(u.out d).low,dN⟩,λc g s=>(il d h' c).trans (B c g s)⟩
 ·simp;exact⟨⟨an.hr.hp,an.hr.low,au _⟩|>λ(o:iE d.size (TI.hr d))=>o.cons _,λc g _ p=>by omega,(C.mono (h':=TI.hr d) λf _=>iI d f).mono λf F=>by rw[ez,ao (by have:=T f F;simp;omega)],m,by simp[iW]⟩
structure YV(h h':H)(v:T)(l:List Int):Prop where
 g:Gr h' v 1 (ij l)
 ok:iE h.size h'
 fr:∀c,c<h.size->eG v≠some c->h'.get c=h.get c
def Sz:o9 prog cx 222 (λa:Int=>[G a]) (λ_=>True) (λ_ d=>d= .bool false):=by
 refine AA (tb:=⟨pt [],ht []⟩) jg iT (jr 5 [] func222) (λ_=>10) (λa e c=>by simpa using c) Y nl9 ?_;rintro(a:Int) _ f b;simp at b;simp[f222,b]
def GS:iy:=⟨Int×Int,λa=>[G a.1,G a.2],λa=>True,λa=> .bool (decide (a.1<a.2)),λa c b=>by simp at b;rw[b.1,b.2]⟩
def ZP:GS.Ok prog cx 176:=by
 refine y9 (tb:=⟨pt [(222,Sz.jX)],ht []⟩) jg iT (jr 19 [] func176) (λa=>1) (by simp[GS]) nl9 ?_;rintro⟨a,c⟩ _ h b;simp[GS]at b|-;obtain⟨e,f⟩:=b;obtain⟨_,rfl,d⟩:=Sz.use a trivial;obtain⟨_,rfl,g⟩:=Sz.use c trivial;simp[f176,e,f,d]
def Ui{c:gG}(ht:c.p 176=some GS)(a b:Int):rl prog cx c 176 [G a,G b]=some (.bool (decide (a<b))):=iA ht ZP (a,b) trivial
structure US where
 (A:List Int) (t:Int) (v:T)
def Yi(a:US)(c:List T)(b:H):Prop:=c=[a.v,G 0,G ((a.A++[a.t]).length:Nat)]/\Gr b a.v 1 (ij (a.A++[a.t]))/\iE 0 b/\Lj a.A/\a.t∉a.A/\a.A.length<=10
def HZ(a:US)(d:List T)(b:H)(e:T)(c:H):Prop:=YV b c a.v (ng a.A a.t)
def My{d:Int}:∀{b a:List Int},(∀c∈b,c<d)->(∀c∈a,d<c)->ng (b++a) d=b++d::a:=by
 intro b;induction b with
 |nil=>
  intro a _ e;cases a with
  |nil=>rfl
  |cons f a=>have:=e f Y;simp[ng];rw[ao D,ao D]
 |cons c b i=>intro a g e;have:=g c Y;simp only[cM,ng];rw[aq this,i (λf h=>g f (by simp[h])) e]
def Pc{b:List Int}{c:Int}{a:Nat}(d:a<b.length):((ij (b.take (a+1)++c::b.drop (a+1))).set (a+1) (G b[a])).set a (G c)=ij (b.take a++c::b.drop a):=by
 have e:(b.take a).length=a:=dN;rw[aM d,aH d];simp only[ij,List.map_append,aL,aZ,cM,cG];have f:(List.map (T.int .i64) (b.take a)).length=a:=by simpa using e
 rw[List.set_append_right _ _ D,List.set_append_right _ _ D,f];simp
def PV:(jY US Yi HZ).Ok prog cx 170:=by
 refine jV (tb:=⟨pt [(176,GS)],ht []⟩) jg iT (jr 1073746119 [] func170) (λ_ _=>100) (λi a e aN=>by obtain⟨rfl,_⟩:=aN;simp[f170]) ?_;rintro⟨b,f,o⟩ _ e ⟨rfl,al,I,P,ht,hl⟩ h av;simp only at al P ht hl;simp at av;obtain⟨p,n,m⟩:=av;simp[f170,n];have bH:Gr (TI.hr e) o 1 (ij (b++[f])):=al.mono λl _=>iI e l;have bs:binop .add (G 0) (G 1)=some (G 1):=iZ D D;simp[bs];refine uH (b.length+1) (λk h h'=>1<=k/\YV e (mK e h') o (if k<=b.length then b++[f]else ng b f)/\iE e.size h'/\dT h 0 o/\dT h 1 (G 0)/\dT h 2 (G ((b.length:Int)+1))/\dT h 6 (G k)) ?_ D (k:=1) D ?_
 ·rintro k h h' b8 ⟨b7,v,J,p,n,m,q⟩;have cb:iE 0 h':=⟨J.hp,J.low,aw _⟩;by_cases b9:k<b.length+1
  ·have Q:binop .add (G (k:Int)) (G 1)=some (G ((k:Int)+1)):=iZ D D;rw[aq D]at v;have O:Gr h' o 1 (ij (b++[f])):=v.g.mono λl _=>(il e h' l).symm;have bN:binop .sub (G (k:Int)) (G 1)=some (G ((k-1:Nat):Int)):=by rw[lJ D D];congr 2;omega
   simp[m,q,show(k:Int)<b.length+1 by omega];by_cases aE:k<b.length
   ·have⟨p1,L,M⟩:=(show qA h' 1 o _ from .inr O).idx (te:=D3) rfl rfl (i:=k) (x:= G b[k]) (by simp[List.getElem?_append,aE]) rfl;have⟨p2,a8,bi⟩:=(show qA h' 1 o _ from .inr O).idx (te:=D3) rfl rfl (i:=k-1) (x:= G b[k-1]) (by simp[List.getElem?_append,show k-1<b.length by omega]) rfl;have U:¬b[k]<b[k-1]:=by
     have:=List.pairwise_iff_getElem.1 P (k-1) k D aE D;omega
    refine uH 1 (λ_ h j=>h'=j/\dT h 0 o/\dT h 1 (G 0)/\dT h 2 (G ((b.length:Int)+1))/\dT h 6 (G k)/\dT h 7 (G k)) ?_ D (k:=0) D (by simp[p,n,m,q]);rintro _ h _ _ ⟨rfl,p,n,m,q,z⟩;simp[p,n,m,q,z,L,M,a8,bi,bN,Ui,U,Q];exact⟨k+1,D,D,D,by rw[aq D];exact v,J,Y⟩
   ·have bA:k=b.length:=D;subst bA;have bu:=v.fr;refine uH b.length (λX h j=>∃r,r+X=b.length/\Gr j o 1 (ij (b.take r++f::b.drop r))/\iE e.size j/\(∀d,d<e.size->eG o≠some d->j.get d=e.get d)/\(∀x∈b.drop r,f<x)/\dT h 0 o/\dT h 1 (G 0)/\dT h 2 (G ((b.length:Int)+1))/\dT h 6 (G b.length)/\dT h 7 (G r)) ?_ D (k:=0) D ⟨b.length,D,by simpa using O,J,λd A u=>(il e h' d).symm.trans (bu d A u),Y,by simp[p,n,m,q]⟩;rintro X h j aN ⟨r,b6,H,s,ae,aA,p,n,m,q,z⟩;have cp:iE 0 j:=⟨s.hp,s.low,aw _⟩;have fin:(∀x∈b.take r,x<f)->YV e (mK e j) o (ng b f):=λhl=>by
     have F:=My hl aA;rw[cS]at F;rw[F];exact⟨H.out e,⟨(s.out e).hp,(s.out e).low,by simp;exact s.sz⟩,λd A u=>(il e j d).trans (ae d A u)⟩
    cases r with
    |zero=>
     simp[p,n,m,q,z,Q];exact⟨b.length+1,D,D,D,by rw[ao D];exact fin Y,s,Y⟩
    |succ c=>
     have C:c<b.length:=D;have bp:(ij (b.take (c+1)++f::b.drop (c+1))).length=b.length+1:=dN;have L:(b.take (c+1)++f::b.drop (c+1))[c+1]? =some f:=by rw[cZ dN];simp[cy (show c+1<=b.length by omega)]
     have M:(b.take (c+1)++f::b.drop (c+1))[c]? =some b[c]:=by rw[cv dN];simp[C]
     have⟨l,N,E,w,K,R,B,a6,bB⟩:=H.at (x:= G f) (i:=c+1) (by rw[aR,L];rfl);have⟨bS,bT,cF,bW,cL,S,T,W,U⟩:=H.at (x:= G b[c]) (i:=c) (by rw[aR,M];rfl);rw[R]at S;simp at S;obtain⟨rfl,rfl⟩:=S;rw[B]at T;simp at T;obtain⟨rfl,rfl,rfl⟩:=T;rw[bp]at R bB U;subst R;have aX:binop .sub (G ((c:Int)+1)) (G 1)=some (G (c:Int)):=by rw[lJ D D];congr 2;omega
     have a7:kT ((c:Int)+1)=some (c+1):=by have:=fy (show(0:Int)<=((c+1:Nat):Int)by omega);simpa using this
     by_cases V:f<b[c]
     ·have y:∀t d,(fg j l t).get d=if d=l then some t else j.get d:=λt d=>ee B t d;have ap:∀t Z d,(fg (fg j l t) l Z).get d=if d=l then some Z else j.get d:=λt Z d=>by
       rw[ee (x:=t) (by rw[y,aq rfl]),y];split<;>rfl
      have bC:∀x,(K.set (c+1) x)[c]? =some (G b[c]):=λx=>by rw[bR,ao D];exact W
      simp[p,n,m,q,z,aX,a7,B,a6,W,show c+1<b.length+1 by omega,show c<b.length+1 by omega,show(0:Int)<(c:Int)+1 by omega,Ui,V,y,bC];have bn:=H.setAt rfl B (c+1) (G b[c]) (h':=fg j l ⟨1,N,E+1,w,false,K.set (c+1) (G b[c])⟩) (ver2:=E+1) (ex2:=w) (by rw[y,aq rfl]);have an:=bn.setAt rfl (by rw[y,aq rfl]) c (G f) (h':=fg (fg j l ⟨1,N,E+1,w,false,K.set (c+1) (G b[c])⟩) l ⟨1,N,E+1+1,w,false,(K.set (c+1) (G b[c])).set c (G f)⟩) (ver2:=E+1+1) (ex2:=w) (by rw[ap,aq rfl]);rw[Pc C]at an;refine⟨X+1,D,D,c,D,an,(s.put _ _).put _ _,λd A u=>by rw[ap,ao (λF=>u F.symm)];exact ae d A (by simpa using u),λx hx=>?_,rfl⟩;rw[aH C]at hx;rcases List.mem_cons.1 hx with rfl|hx
      ·exact V
      ·exact aA x hx
     ·simp[p,n,m,q,z,aX,a7,B,a6,W,show c+1<b.length+1 by omega,show c<b.length+1 by omega,show(0:Int)<(c:Int)+1 by omega,Ui,V,Q];refine⟨b.length+1,D,D,D,?_,s,Y⟩;rw[ao D];refine fin λx hx=>?_;obtain⟨i,bX,rfl⟩:=List.mem_take_iff_getElem.1 hx;have ca:b[c]≠f:=λk=>ht (by rw[<-k];exact aC C);rcases aS i c with k|k
      ·have:=List.pairwise_iff_getElem.1 P i c D C k;omega
      ·have:i=c:=D;subst this;omega
  ·rw[ao D]at v;simp[m,q,show¬(k:Int)<b.length+1 by omega];exact v
 ·exact⟨D,by
   have:(if 1<=b.length then b++[f]else ng b f)=b++[f]:=by
    split
    ·rfl
    ·rw[show b=[]from aW D];rfl
   rw[this];exact⟨bH.out e,⟨(I.hr.out e).hp,(I.hr.out e).low,au _⟩,λd _ _=>(il e _ d).trans (iI e d)⟩,⟨I.hr.hp,I.hr.low,au _⟩,by simp[p,n,m]⟩
def Ye(a:US×Int)(c:List T)(b:H):Prop:=c=[a.1.v,G 0,G ((a.1.A++[a.1.t]).length:Nat),G a.2]/\Gr b a.1.v 1 (ij (a.1.A++[a.1.t]))/\iE 0 b/\Lj a.1.A/\a.1.t∉a.1.A/\a.1.A.length<=10
def RR(a:US×Int)(d:List T)(b:H)(e:T)(c:H):Prop:=YV b c a.1.v (ng a.1.A a.1.t)
def YV.out{h c:H}{e:T}{d:List Int}(a:YV (TI.hr h) c e d):YV h (mK h c) e d:=⟨a.g.out h,⟨(a.ok.out h).hp,(a.ok.out h).low,by have:=a.ok.sz;simpa using this⟩,λb f i=>(il h c b).trans ((a.fr b (by simpa using f) i).trans (iI h b))⟩
def adL:(jY (US×Int) Ye RR).Ok prog cx 138:=by
 refine jV (tb:=⟨pt [],ht [(170,jY US Yi HZ)]⟩) jg iT (jr 10384593871817177683247510831234831 [] func138) (λ_ _=>100) (λw t c o=>by obtain⟨rfl,_⟩:=o;simp[f138]) ?_;rintro⟨⟨a,l,g⟩,x⟩ _ c ⟨rfl,h,s,i,ht,hl⟩ b j;simp only at h i ht hl;simp at j;obtain⟨d,e,f,v⟩:=j;have q:binop .sub (G ((a.length:Int)+1)) (G 0)=some (G ((a.length:Int)+1)):=by rw[lJ D D];simp
 have p:Gr (TI.hr c) g 1 (ij (a++[l])):=h.mono λm _=>iI c m;simp[f138];refine uH 1 (λ_ b n=>TI.hr c=n/\dT b 0 g/\dT b 1 (G 0)/\dT b 2 (G ((a.length:Int)+1))) ?_ D (k:=0) D (by simp[d,e,f]);rintro _ b _ _ ⟨rfl,d,e,f⟩;simp[d,e,f,q,show(a.length:Int)+1<=12 by omega];refine jm PV Y ⟨a,l,g⟩ ⟨Y,p,s.hr,i,ht,hl⟩ ?_;rintro y u r;simp;exact r.out
def vn:iy:=⟨ej×fD×Int,λa=>[a.1.t,a.2.1.t,G a.2.2],λa=>vH a.1 a.2.1,λa=> G (iV a.1 a.2.1 a.2.2),λa c b=>by simp at b;rw[show a=c from aD (ej.inj b.1) (aD (fD.inj b.2.1) b.2.2)]⟩
def kZ.qB{c:ej}(e:kZ c){b:fk}(f:b∈c.dY):ju b.eg c.fq.dW.length=true:=by
 obtain⟨i,g,rfl⟩:=dy f;have⟨b,a,_,_,d,_⟩:=e.at (i:=i) (by rw[fI];omega);simp only[cm]at a;rw[az g]at a;simp only[ar]at a;rw[a];exact d
def Ml{e:Int}{i:List Int}:∀{b:List fk} (c:Nat),(∀a∈b,a.eg≠e)->qI e i b c=-1:=by
 intro b;induction b with
 |nil=>intro c _;rfl
 |cons a b g=>
  intro c d;unfold qI;rw[ao λh=>d a Y h.1];exact g _ λa f=>d a (by simp[f])
def VN:vn.Ok prog cx 55:=by
 refine iq [(70,oK)] (jr 137454944735 [] func55) (λJ=>1000) (by simp[vn]) ?_;rintro⟨a,h,d⟩ (l:vH a h) e y;simp[vn]at y|-;obtain⟨o,p,f⟩:=y;have hl:=l.ev;have L:=l.hw.ok.len;have F:=l.od;cases u:ju d a.fq.dW.length with
 |false=>
  have M:=qW u;have x:iV a h d=-1:=Ml 0 λK E H=>by have:=l.hw.qB E;rw[H,u]at this;simp at this
  by_cases B:d<0
  ·simp[f55,o,p,f,B,x]
  ·simp[f55,o,p,f,B,show(a.fq.dW.length:Int)<=d by omega,x]
 |true=>
  have⟨N,O⟩:=fI.1 u;simp[f55,o,p,f,show¬d<0 by omega,show¬(a.fq.dW.length:Int)<=d by omega];refine gu a.dY.length D (λm e i=>iE 2 i/\i.get 0=some (dS 15 0 [a.t])/\i.get 1=some (dS 9 0 [h.t])/\dT e 2 (G d)/\dT e 3 (.ptr 0 0 0 0)/\dT e 4 (.ptr 1 0 0 0)/\dT e 20 (sl (a.dY.map fk.t))/\dT e 21 (G a.dY.length)/\dT e 22 (G m)/\qI d h.order (a.dY.drop m) m=iV a h d) ?_ ?_ D ⟨⟨Y,Y,Y⟩,Y,Y,by simp[f,iV]⟩
  ·rintro m e i z C ⟨g,v,n,f,w,r,q,j,k,c⟩;rw[aH z]at c;simp only[qI]at c;have I:=g.ne (b:=0) D;have A:=g.ne (b:=1) D;simp[n,f,r,q,j,k,z,A,g.low,pY,F];refine fw (λs=>?_) (λs=>?_)
   ·rw[aq (by simpa using s)]at c;simp[g.hp,<-c]
   ·rw[ao (by simpa using s)]at c;simp[v,n,f,w,r,q,j,k,C,g.cons,c,I,A]
  ·rintro e i ⟨g,v,n,f,w,r,q,j,k,c⟩;rw[bU]at c;simp only[qI]at c;simp[j,k,g.hp,<-c]
def M0{d:gG}(ht:d.p 55=some vn)(b:ej)(a:fD)(c:Int)(e:vH b a):rl prog cx d 55 [b.t,a.t,G c]=some (G (iV b a c)):=iA ht VN (b,a,c) e
end
end
noncomputable section
open Go Go.TI
def Iv{c:fc}{b a:gh}(d:mn c b=true)(hl:a.fj.length=b.fj.length/\a.done.length=b.done.length/\a.dW.length=b.dW.length):mn c a=true:=by
 unfold mn at*
 rw[hl.1,hl.2.1,hl.2.2];exact d
def uI.up{b M:Nat}{d:ej}{c:fD}(a:uI b d c)(g:b<=M):uI M d c:=⟨a.fx,a.wk,a.ce,a.fu,a.ft,λe f=>by have:=a.rd e f;omega,a.BL,by have:=a.od;omega⟩
def uI.go{f:Nat}{c:ej}{d:fD}(a:uI f c d)(i:Int)(e:fk)(g h:Int):uI (f+1) c (wu c d i e g h):=by
 have hl:=xi c.fq d.fN g e.kind e.obj h;refine⟨?_,?_,λb=>?_,λb=>?_,λb=>Iv (a.ft b) ⟨hl.1,hl.2.1,hl.2.2⟩,HF a.rd _ _ _ _ _,xj a.BL _ _ _ _ _,?_⟩
 ·have:=a.fx;simp only[wu];grind
 ·have:=a.wk;simp only[wu];grind
 ·have:=a.ce b;simp only[wu];grind
 ·have:=a.fu b;simp only[wu];grind
 ·have:=a.od;simp only[wu,aT,aP,cQ];omega
def uI.step{c:Nat}{a:ej}{b:fD}(e:uI c a b)(d:gJ)(f:iP a b d.eg=true):uI (c+1) a (mf a b d).1:=by
 unfold mf;rw[aq f];exact e.go _ _ _ _
def uI.start{w:ej}(h:kZ w):uI 1000 w (ka w):=by
 have c:w.dY≠ []->mD w.fq w.jG=true:=λa=>by
  have⟨d,e,b⟩:=List.exists_cons_of_ne_nil a;have hr:=h.ok.run;unfold runs at hr;rw[b]at hr;simp only[qH,ax]at hr;exact(m6 hr.1).1
 refine⟨by simp[ka],by simp[ka],λa=>?_,λa=>?_,λa=>?_,h.sm.r,h.ok.BL,by simp[ka]⟩
 all_goals
  have:=c a;unfold mD at this;simp only[ax,aK]at this;simp[ka,this]
def kZ.cnt{a:ej}(b:kZ a)(d:a.dY≠ []):a.jG.count.length=a.fq.dW.length:=by
 have⟨e,f,c⟩:=List.exists_cons_of_ne_nil d;have hr:=b.ok.run;unfold runs at hr;rw[c]at hr;simp only[qH,ax]at hr;have:=(m6 hr.1).1;unfold mD at this;simp only[ax,aK]at this;exact this.2
end
noncomputable section
open Go Go.TI Tryz
attribute [-simp] List.map_take List.map_drop List.map_append fU fK fh Bool.not_or Bool.not_and
attribute [simp] fT fM
section
attribute [-simp] size_cons
def uR:iy:=⟨ej×fD×Int×List Int,λa=>[a.1.t,a.2.1.t,G a.2.2.1,sl (a.2.2.2.map (T.int .i64))],λa=>vH a.1 a.2.1/\a.1.dY≠ []/\a.2.2.2.length<=1000000,λa=> .bool (mN a.1 a.2.1 a.2.2.1 a.2.2.2),λa c b=>by simp at b;rw[show a=c from aD (ej.inj b.1) (aD (fD.inj b.2.1) (aD b.2.2.1 (jH Y b.2.2.2)))]⟩
def SK:uR.Ok prog cx 60:=by
 refine iq [] (jr 633825300270344703797589335871 [] func60) (λa=>1000005) (by simp[uR]) ?_;rintro⟨c,g,t,l⟩ ⟨W,bi,hl⟩ d aX;simp only at W bi hl;simp[uR]at aX|-;obtain⟨P,z,p,m⟩:=aX;have cb:=W.hw.cnt bi;have cp:=W.hw.ok.len;cases l with
 |nil=>
  have:mN c g t []=true:=by unfold mN;split<;>simp
  simp[f60,P,z,m,this]
 |cons a0 l0=>
 have bA:decide ((a0::l0).length=0)=false:=Y;generalize a0::l0=l at*
 have Z:decide (l=[])=false:=by cases l<;>simp at bA|-
 cases L:ju t c.jG.count.length with
 |false=>
  have U:mN c g t l=false:=by unfold mN;rw[oS L];exact Z
  have cF:=qW L;by_cases w:t<0
  ·simp[f60,P,z,p,m,Z,U,show decide (t<0)=true by simpa using w]
  ·simp[f60,P,z,p,m,Z,U,show decide (t<0)=false by simpa using w,show decide ((c.fq.dW.length:Int)<=t)=true by simp;omega]
 |true=>
 have⟨first,bs,bu⟩:=iU L;have bX:=fy (fI.1 L).1;have U:mN c g t l=l.all (yZ c g.fixed t first):=by unfold mN;rw[bu]
 have⟨cL,cX⟩:=fI.1 L;simp[f60,P,z,p,m,Z,U,bX,bs,show decide (t<0)=false by simp;omega,show decide ((c.fq.dW.length:Int)<=t)=false by simp;omega,show decide ((c.jG.count.length:Int)<=t)=false by simp;omega];refine gu c.dY.length D (λi d o=>∃v,Gr o v 1 (ij (nT t (c.dY.take i) 0))/\(∀b,eG v=some b->2<=b)/\iE 2 o/\o.get 0=some (dS 15 0 [c.t])/\o.get 1=some (dS 9 0 [g.t])/\dT d 2 (G t)/\dT d 3 (sl (l.map (T.int .i64)))/\dT d 5 (.ptr 1 0 0 0)/\dT d 9 (G first)/\dT d 10 v/\dT d 43 (sl (c.dY.map fk.t))/\dT d 44 (G c.dY.length)/\dT d 45 (G i)) ?_ ?_ D ⟨dR,Gr.nil _ _,Y,⟨Y,Y,Y⟩,Y,Y,by simp[p,m]⟩
 ·rintro i d o M K ⟨v,y,O,n,ae,B,p,m,q,j,k,Q,E,F⟩;have a6:=yc t (c.dY.take i) 0;rw[List.length_take]at a6;have A:=AY t (c.dY.take i) [c.dY[i]] 0;rw[<-aM M,List.length_take,cy D]at A;simp only[nT]at A;generalize nT t (c.dY.take i) 0=s at*
  have ap:=n.cons (dS 7 1 [c.dY[i].t]);have aN:Gr (o.cons (dS 7 1 [c.dY[i].t])) v 1 (ij s):=y.mono λb S=>by
   have⟨_,_,_,_,w,_⟩:=y.box S;rw[ez,ao (by have:=H.fG w;omega)]
  have bS:=n.ne (b:=0) D;have bT:=n.ne (b:=1) D;simp[p,Q,E,F,M,n.low];refine fw (λu=>?_) (λu=>?_)
  ·rw[aq (by simpa using u)]at A;have⟨c6,C,aA,b8⟩:=aN.my (cx:=cx) (f:=T.int .i64) (ap.QZ (aw _)) kx rfl mP rfl Y (λ_=>rfl) (i:Int) dN;obtain⟨a1,a2,a3,a4⟩:=b8;simp at aA;have c1:=ap.sz;have aE:∀b,b<2->C.get b=o.get b:=λb S=>(a2 b D λw=>by have:=O b w;omega).trans (by rw[ez,ao (by have:=n.sz;omega)]);simp[p,m,q,j,k,Q,E,F,K,aA];exact⟨_,by rw[A];simpa using a1,λb S=>(a3 b S).elim (O b) λw=>by omega,⟨a4.hp,a4.low,by have:=a4.sz;omega⟩,(aE 0 D).trans ae,(aE 1 D).trans B,rfl⟩
  ·rw[ao (by simpa using u)]at A;simp[p,m,q,j,k,Q,E,F,K,bS,bT,ae,B];exact⟨_,by rw[A];simpa using aN,O,ap,rfl⟩
 ·rintro d o ⟨v,y,O,n,ae,B,p,m,q,j,k,Q,E,F⟩;rw[aI]at y;have a6:=yc t c.dY 0;have bB:=λx=>ED (t:=t) (l:=c.dY) (i:=0) (x:=x);have bW:∀h:Int,-9223372036854775808<=h->h<9223372036854775808->oZ t c.dY 0 h=if 0<=h then(nT t c.dY 0).getD h.toNat (-1)else-1:=λh bN N=>by
   split
   ·exact A6 t _ _ _ D N
   ·exact Ta t _ _ _ D bN D
  generalize nT t c.dY 0=s at*
  simp[m,E,F];refine gu l.length D (λr d C=>C=o/\dT d 5 (.ptr 1 0 0 0)/\dT d 9 (G first)/\dT d 10 v/\dT d 59 (sl (l.map (T.int .i64)))/\dT d 60 (G l.length)/\dT d 61 (G r)/\(l.drop r).all (yZ c g.fixed t first)=l.all (yZ c g.fixed t first)) ?_ ?_ D (by simp[q,j,k])
  ·rintro r d C M K ⟨rfl,q,j,k,R,I,J,e⟩;rw[aH M,cB]at e;simp[j,R,I,J,M];refine fw (λu=>?_) (λu=>?_)
   ·have:yZ c g.fixed t first l[r]=true:=by unfold yZ;rw[u];rfl
    rw[this,bg]at e;simp[q,j,k,R,I,J,K,e]
   have bC:yZ c g.fixed t first l[r]=ww g.fixed (oZ t c.dY 0 (IntKind.i64.wrap (l[r]-first))):=by unfold yZ;rw[u];rfl
   have⟨b6,b7⟩:=agU (l[r]-first);rw[bC,bW _ b6 b7]at e;have V:=λz=>y.len (cx:=cx) z pf _ rfl;simp at V;have X:=tZ .i64 l[r] first
   generalize IntKind.i64.wrap (l[r]-first)=h at*
   have a7:ww g.fixed (-1)=false:=rfl;cases p1:decide (h<0)with
   |true=>
    rw[ao (by simp at p1;omega),a7,df]at e;simp[j,X,p1,n.hp,<-e]
   |false=>
   have an:0<=h:=by simpa using p1
   rw[aq an]at e;cases p2:decide ((s.length:Int)<=h)with
   |true=>
    have:s.getD h.toNat (-1)=-1:=by rw[bQ,bP (by simp at p2;omega)];rfl
    rw[this,a7,df]at e;simp[j,k,X,p1,p2,V,n.hp,<-e]
   |false=>
   have N:h.toNat<s.length:=by simp at p2;omega
   have⟨x,a8,bH⟩:=bB s[h.toNat] (aC N);have al:x<g.fixed.length:=by rw[W.hc.fx];exact bH
   have:s.getD h.toNat (-1)=x:=by rw[bQ,az N];simpa using a8
   rw[this,show ww g.fixed x=g.fixed[x]by simp[ww,qJ,al]]at e;have⟨b,b9,c7,ca,c9,c4,bn,bp,av⟩:=y.Bf (te:=D3) rfl (i:=h.toNat) (by simpa using N);simp[a8]at av;have p3:decide (g.fixed.length<=x)=false:=dN;cases p4:g.fixed[x]
   ·rw[p4,df]at e;simp[q,j,k,X,p1,p2,p3,p4,V,fy an,bn,bp,av,B,al,n.hp,<-e]
   ·rw[p4,bg]at e;simp[q,j,k,R,I,J,X,p1,p2,p3,p4,V,fy an,bn,bp,av,B,al,K,e]
  ·rintro d C ⟨rfl,q,j,k,R,I,J,e⟩;rw[bU]at e;simp at e;simp[I,J,n.hp];simpa using e
def OK{e:gG}(ht:e.p 60=some uR)(a:ej)(b:fD)(d:Int)(c:List Int)(f:vH a b)(g:a.dY≠ [])(hl:c.length<=1000000):rl prog cx e 60 [a.t,b.t,G d,sl (c.map (T.int .i64))]=some (.bool (mN a b d c)):=iA ht SK (a,b,d,c) ⟨f,g,hl⟩
def qT:iy:=⟨ej×fD×Int,λa=>[a.1.t,a.2.1.t,G a.2.2],λa=>vH a.1 a.2.1/\ju a.2.2 a.1.fq.dW.length=true,λa=> .bool (iP a.1 a.2.1 a.2.2),λa c b=>by simp at b;rw[show a=c from aD (ej.inj b.1) (aD (fD.inj b.2.1) b.2.2)]⟩
def Mg:qT.Ok prog cx 54:=by
 refine iq [(55,vn),(96,oJ),(60,uR)] (jr 16863 [] func54) (λC=>5) (by simp[qT]) ?_;rintro⟨w,a,t⟩ ⟨c,h⟩ H n;simp only at c h;simp[qT]at n|-;obtain⟨j,l,m⟩:=n;have hE:=iP.eq_1 w a t;generalize iP w a t=B at*
 have r:=λ{e:gG} (ht:e.p 55=some vn)=>M0 ht w a t c;by_cases d:iV w a t<0
 ·rw[aq d]at hE;simp[f54,j,l,m,r,d,hE]
 ·rw[ao d]at hE;have f:=qV d;have⟨b,g,u,E,F,i⟩:=c.hw.at f;rw[oQ (fI.1 f).1 g]at hE;have z:=c.hw.ev b (ay g);have x:w.fq.iB.length<=1000000:=by have:=kW c.hw.wb;omega
  have q:=c.hc.ft (qq f);have y:=λ{e:gG} (ht:e.p 96=some oJ)=>HB ht (w:=w.fq) (s:=a.fN) (t:=t) (k:=b.kind) (o:=b.obj) ⟨q,h,i,x,c.hc.rd⟩;have A:=λ{e:gG} (ht:e.p 60=some uR)=>OK ht w a t b.mE c (qq f) z.1;have v:je w.fq a.fN t b.kind b.obj=Ao w.fq a.fN t b.kind b.obj:=by unfold je;rw[q,h,i];rfl
  rw[v]at hE;simp[f54,j,l,m,r,d,g,u,y,A,hE]
def HA{d:gG}(ht:d.p 54=some qT)(a:ej)(b:fD)(c:Int)(e:vH a b)(f:ju c a.fq.dW.length=true):rl prog cx d 54 [a.t,b.t,G c]=some (.bool (iP a b c)):=iA ht Mg (a,b,c) ⟨e,f⟩
