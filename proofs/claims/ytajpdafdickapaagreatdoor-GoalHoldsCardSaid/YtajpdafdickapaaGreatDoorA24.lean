/- W06w -/
import Derived.Test.YtajpdafdickapaaGreatDoorA20
import Derived.Test.YtajpdafdickapaaGreatDoorA23
set_option linter.all false
set_option maxRecDepth 100000
set_option maxHeartbeats 8000000
namespace Go.Proofs.YtajpdafdickapaaGreatDoor
noncomputable section
open Go Go.TI Tryz
attribute [-simp] List.map_take List.map_drop List.map_append fw eY eg Bool.not_or Bool.not_and
attribute [simp] fq eZ
structure ISi where
 (O:List iK) (v:T) (t n:Int) (l:List dO)
def abO(a:ISi)(c:List T)(b:H):Prop:=c=[a.v,Z a.t,Z a.n,sl (a.l.map dO.t)]/\Gr b a.v 3 (a.O.map iK.t)/\hU 0 b/\a.O.length+dO.ws a.l<=10000000
def XF(a:ISi)(h:List T)(d:H)(g:T)(e:H):Prop:=∃c f,∃b:List iK,g= .tuple [c,Z f]/\b.length<=a.O.length+dO.ws a.l/\Xt d a.v 3 (b.map iK.t) c e
abbrev rSi(d:Nat):li:=jI ISi (λa b c=>abO a b c/\dO.ws a.l<d) XF
def Kl(y:Nat)(C:(rSi y).Ok prog cx 154):(rSi (y+1)).Ok prog cx 154:=by
 refine jx (tb:=⟨pt [],ht [(154,rSi y)]⟩) iL iB (iQ 18191 [] func154) (λ_ _=>10000005) (λa V k L=>by obtain⟨⟨rfl,_⟩,_⟩:=L;simp[f154]) ?_;rintro⟨u,s,n,M,l⟩ _ k ⟨⟨rfl,z,O,K⟩,I⟩ c A;simp only at z K I;simp at A;obtain⟨m,d,h,b⟩:=A;have hl:=dO.vk (l:=l);have T:Xt (hr k) s 3 (u.map iK.t) s (hr k):=Xt.refl (z.mono λF _=>gU k F) O.hr;simp[f154];refine fk l.length J (λa c v=>∃o i,∃e:List iK,dF c 0 o/\dF c 1 (Z n)/\dF c 2 (Z i)/\dF c 3 (sl (l.map dO.t))/\dF c 10 (Z a)/\e.length<=u.length+dO.ws (l.take a)/\Xt (hr k) s 3 (e.map iK.t) o v) ?_ ?_ J ⟨s,M,u,by simp[m,d,h,b,T]⟩
 ·rintro a c v x H ⟨o,i,e,m,d,h,b,g,w,j⟩;have an:=dO.Gt l x;have al:=dO.yp l (a+1);have⟨R,W,G,p⟩:=j.1.lP (cx:=cx) (f:=iK.t) ⟨j.2.2.2.hp,j.2.2.2.low,aw _⟩ YK rfl UR rfl dy dy (⟨n,i,l[a].vi⟩:iK) dz;simp[m,d,h,b,g,x];have B:l[a]? =some l[a]:=az x;generalize l[a]=r at*
  have ae:=r.lI;simp[d,h,b,g,G,oN,B,p.1.qP,Cf];refine iy C dy ⟨e++[⟨n,i,r.vi⟩],R,n,_,r.body⟩ ⟨⟨rfl,p.1,⟨p.2.2.2.hp,p.2.2.2.low,aw _⟩,dz⟩,dA⟩ ?_;rintro _ X ⟨S,N,D,rfl,P,q⟩;simp only[aS,List.length_singleton]at P;simp[d,b,g,B,q.1.qP,Cf];refine iy C dy ⟨D,S,n,N,r.OH⟩ ⟨⟨rfl,q.1,⟨q.2.2.2.hp,q.2.2.2.low,aw _⟩,dA⟩,dA⟩ ?_;rintro _ Y ⟨av,ap,E,rfl,Q,U⟩;simp only at Q;simp[d,b,g,H];exact⟨E,J,((j.trans p).trans q).trans U⟩
 ·rintro c v ⟨o,i,e,m,d,h,b,g,w,j⟩;rw[aK]at w;simp[m,h,b,g];exact⟨o,i,e,rfl,w,j.out⟩
def NY:(rSi 10000001).Ok prog cx 154:=xP (λa:ISi=>dO.ws a.l) Kl 10000001
def e04(c:fK):Int:=Classical.epsilon λa=>∃b,j7.jA.R c= .tuple [Z a,Z b]
def l04(a:fK):Int:=Classical.epsilon λb=>j7.jA.R a= .tuple [Z (e04 a),Z b]
def c04{c:fy}(ht:c.p 102=some j7.jA)(p:fK)(b:KH p):rl prog cx c 102 [p.t]=some (.tuple [Z (e04 p),Z (l04 p)]):=by
 have e:∃a,j7.jA.R p= .tuple [Z (e04 p),Z a]:=Classical.epsilon_spec (p:=λd=>∃a,j7.jA.R p= .tuple [Z d,Z a]) (j7.2 p b);exact(gu ht j7.1 p b).trans (bR some (Classical.epsilon_spec e))
def N7(b:fK):Prop:=KH b/\b.jt.length<=100/\(∀a∈b.jt,a.size<=4)/\∃a∈b.jt,a.kind=1/\a.name=[113]
def WoS(m:H)(a n f:Nat)(e:List io):Prop:=∃o g h i j k l,∃(Lk:List iI) (b:List jb) (c Th:List (List Nat)) (d:List iK),nG m 2 6 o [(g,some (5,e.map io.t)),(h,some (2,Lk.map iI.t)),(i,some (2,b.map jb.t)),(j,some (1,c.map T.str)),(k,some (1,Th.map T.str)),(l,some (3,d.map iK.t))]/\
 Lk.length<=a/\b.length<=a/\c.length<=a/\Th.length<=n/\d.length<=f
def WoS.le{e:H}{b c f d:Nat}{a:List io}(r:WoS e b f d a)(x:b<=c):WoS e c f d a:=by
 obtain⟨t,j,k,l,m,n,o,Lk,g,h,Th,i,s,u,v,w,p,q⟩:=r;exact⟨t,j,k,l,m,n,o,Lk,g,h,Th,i,s,J,J,J,p,q⟩
def KQ(b:List Nat)(a:List io):Prop:=b∈a.map io.name
def H6:iX:=(dE 6 0 [.agg [dD,dD,dD,dD,dD,dD]])
def Dh:oa prog cx 103 (λd:fK=>[d.t]) N7 (λd r=>∃W:dZ,r=W.t/\(e04 d=0->okW W)):=by
 refine yV (tb:=⟨pt [(102,j7.jA),(153,sZ)],ht [(154,rSi 10000001)]⟩) iL iB (iQ 316913254556860716756833993695 [(21,[(1,8),(3,8)])] func103) (λd=>1000005) (λa b h=>by simp at h;exact fK.inj h) dy nl9 ?_;rintro d ⟨bH,eM,bB,eh⟩ j cb;simp at cb;have dd:=λ{tb:fy} (ht:tb.p 102=some j7.jA)=>c04 ht d bH;have hl:=bH.1.1;simp[f103,cb,dd];refine ee (λbX=>?_) (λbX=>?_)
 ·simp at bX;simp[bX];exact⟨⟨[],[],[],[],[],[]⟩,rfl⟩
 simp;refine fk d.jt.length J (λi j h=>∃z,WoS h i 0 0 z/\Lb 2 h 0 (dE 2 0 [d.t])/\Lb 2 h 1 H6/\z.length<=4*i/\(∀c∈d.jt.take i,c.kind=1->KQ c.name z)/\dF j 1 (.ptr 0 0 0 0)/\dF j 2 (.ptr 1 0 0 0)/\dF j 3 (.ptr 2 0 0 0)/\dF j 6 (Z i)) ?_ ?_ J ?_
 ·rintro i j h av an ⟨z,⟨ver,D,L,E,G,H,A,Lk,P,Q,Th,K,e,aE,aN,aX,U,V⟩,o,v,dm,aA,u,x,y,O⟩;have S:=e.get;simp at S;have eO:(0=h.size)=False:=by have:=e.lt;simp;omega
  have eP:(2=h.size)=False:=by have:=e.lt;simp;omega
  have bs:∀c∈d.jt.take (i+1),c∈d.jt.take i\/c=d.jt[i]:=λc bB=>by
   rw[aR av]at bB;exact(List.mem_append.1 bB).imp id λq=>List.mem_singleton.1 q
  have eS:=bB d.jt[i] (aD av);simp[u,O,av,o.get,e.ok.low];generalize d.jt[i]=c at*
  have B:=e.cons (dE 6 1 [c.t]);have c7:=Step.cons e.ok e.lt (dE 6 1 [c.t]);have Y:=Lb.new e.lt e.fp (dE 6 1 [c.t]);replace o:=o.step c7;replace v:=v.step c7;have bi:(h.cons (dE 6 1 [c.t])).get 2=h.get 2:=by rw[dT,ao (by have:=e.lt;omega)]
  rw[S]at bi;generalize eR:h.size=b8 at*
  generalize h.cons (dE 6 1 [c.t])=eD at*
  by_cases et:c.kind=1\/c.kind=2
  ·have bu:∃N:Nat,max c.size 1=N/\1<=N/\N<=4:=⟨(max c.size 1).toNat,J,J,J⟩;obtain⟨N,bu,ds,eL⟩:=bu;rcases et with hk|hk<;>(
    simp[hk];refine fk N J (λk j h=>∃al,WoS h i 0 0 al/\Lb 2 h 0 (dE 2 0 [d.t])/\Lb 2 h 1 H6/\Lb 2 h b8 (dE 6 1 [c.t])/\al.length<=4*i+k/\(∀n,KQ n z->KQ n al)/\(1<=k->KQ c.name al)/\dF j 1 (.ptr 0 0 0 0)/\dF j 2 (.ptr 1 0 0 0)/\dF j 3 (.ptr 2 0 0 0)/\dF j 6 (Z i)/\dF j 7 (.ptr b8 0 0 0)/\dF j 8 (Z k)) ?_ ?_ J ⟨z,⟨ver,D,L,E,G,H,A,Lk,P,Q,Th,K,B,aE,aN,aX,U,V⟩,o,v,Y,J,λ_ h=>h,λh=>by omega,by simp[u,x,y,O]⟩
    ·rintro k j h ec ea ⟨al,⟨ver,D,L,E,G,H,A,Lk,P,Q,Th,K,e,aE,aN,aX,U,V⟩,o,v,Y,dn,ap,bC,u,x,y,O,bS,bT⟩;have S:=e.get;simp at S;have eN:(k:Int)<max c.size 1:=J;have⟨X,a6,M,l⟩:=(e.gr 0 rfl).lP (cx:=cx) (f:=io.t) e.ok YM rfl US rfl dy dy (⟨c.name,k,c.size,decide (c.kind=2),c.jG⟩:io) dz;have⟨s,a7,I⟩:=e.app 0 rfl l;have⟨g,m⟩:=I _ rfl;simp at s g m;simp[hk]at M;simp[hk,u,x,y,O,bS,bT,Y.get,S,ec,bu,M,s,dX,l.1.ir,l.1.cells,ea];exact⟨_,⟨ver+1,X,L,E,G,H,A,Lk,P,Q,Th,K,m,aE,aN,aX,U,V⟩,o.step g,v.step g,Y.step g,dz,λn b6=>by have:=ap n b6;unfold KQ at*;rw[List.map_append];exact cZ _ this,by unfold KQ;simp⟩
    ·rintro j h ⟨al,eC,o,v,Y,dn,ap,bC,u,x,y,O,bS,bT⟩;simp[hk,u,x,y,O,bS,bT,Y.get,bu,an];exact⟨al,eC.le J,o,v,J,λC ae ef=>by
      rcases bs C ae with q|rfl
      ·exact ap _ (aA C q ef)
      ·exact bC ds⟩)
  have eu:¬c.kind=1/\¬c.kind=2:=J;by_cases cy:c.kind=3
  ·have⟨X,a6,M,l⟩:=(B.gr 1 rfl).lP (cx:=cx) (f:=iI.t) B.ok RW rfl MI rfl dy dy (⟨c.name,false⟩:iI) dz;have⟨s,a7,I⟩:=B.app 1 rfl l;have⟨g,m⟩:=I _ rfl;simp at s g m;simp[cy,u,x,y,O,Y.get,bi,an,M,s,dX,l.1.ir,l.1.cells];exact⟨z,⟨ver+1,D,X,E,G,H,A,_,P,Q,Th,K,m,dz,J,J,U,V⟩,o.step g,v.step g,J,λC ae hk=>aA C ((bs C ae).resolve_right λR=>by subst R;omega) hk⟩
  by_cases cL:c.kind=4
  ·have⟨X,a6,M,l⟩:=(B.gr 1 rfl).lP (cx:=cx) (f:=iI.t) B.ok RW rfl MI rfl dy dy (⟨c.name,true⟩:iI) dz;have⟨s,a7,I⟩:=B.app 1 rfl l;have⟨g,m⟩:=I _ rfl;simp at s g m;simp[cL,u,x,y,O,Y.get,bi,an,M,s,dX,l.1.ir,l.1.cells];exact⟨z,⟨ver+1,D,X,E,G,H,A,_,P,Q,Th,K,m,dz,J,J,U,V⟩,o.step g,v.step g,J,λC ae hk=>aA C ((bs C ae).resolve_right λR=>by subst R;omega) hk⟩
  by_cases c1:c.kind=5
  ·have di:=(B.gr 1 rfl).qP dy;have de:=λ{tb:fy} (h:tb.p 153=some sZ)=>MX h Lk c.on J;have⟨X,a6,M,l⟩:=(B.gr 2 rfl).lP (cx:=cx) (f:=jb.t) B.ok YL rfl UT rfl dy dy (⟨c.name,sN (Lk.map iI.name) c.on 0⟩:jb) dz;have⟨s,a7,I⟩:=B.app 2 rfl l;have⟨g,m⟩:=I _ rfl;simp at s g m;simp[c1,u,x,y,O,Y.get,bi,an,M,s,dX,l.1.ir,l.1.cells,di,de];exact⟨z,⟨ver+1,D,L,X,G,H,A,Lk,_,Q,Th,K,m,J,dz,J,U,V⟩,o.step g,v.step g,J,λC ae hk=>aA C ((bs C ae).resolve_right λR=>by subst R;omega) hk⟩
  ·have⟨X,a6,M,l⟩:=(B.gr 3 rfl).lP (cx:=cx) (f:=T.str) B.ok rn rfl wW rfl dy dy (c.name) dz;have⟨s,a7,I⟩:=B.app 3 rfl l;have⟨g,m⟩:=I _ rfl;simp at s g m;simp[eu,cy,cL,c1,u,x,y,O,Y.get,bi,an,M,s,dX,l.1.ir,l.1.cells];exact⟨z,⟨ver+1,D,L,E,X,H,A,Lk,P,_,Th,K,m,J,J,dz,U,V⟩,o.step g,v.step g,J,λC ae hk=>aA C ((bs C ae).resolve_right λR=>by subst R;omega) hk⟩
 ·rintro j h ⟨z,⟨ver,D,L,E,G,H,A,Lk,P,Q,Th,K,e,aE,aN,aX,U,V⟩,o,v,dm,aA,u,x,y,O⟩;have eU:=bH.1.2.1;have er:∀{i:Nat} (cp:i<d.dH.length),qv (d.dH.take (i+1))=qv (d.dH.take i)+dO.ws d.dH[i].body:=λ{i} cp=>by
   unfold qv;rw[aR cp,List.map_append,List.sum_append];simp
  have eo:∀i,qv (d.dH.take i)<=1000000:=λi=>by
   have:qv d.dH<=1000000:=bH.2.1;have x:qv d.dH=qv (d.dH.take i)+qv (d.dH.drop i):=by unfold qv;rw[<-List.sum_append,<-List.map_append,cT]
   omega
  simp[u,O,o.get];refine fk d.dH.length J (λi j h=>WoS h 1000000 i (qv (d.dH.take i)) z/\Lb 2 h 0 (dE 2 0 [d.t])/\Lb 2 h 1 H6/\dF j 1 (.ptr 0 0 0 0)/\dF j 2 (.ptr 1 0 0 0)/\dF j 3 (.ptr 2 0 0 0)/\dF j 9 (Z i)) ?_ ?_ J ⟨⟨ver,D,L,E,G,H,A,Lk,P,Q,Th,K,e,J,J,J,U,by simpa[qv]using V⟩,o,v,by simp[u,x,y]⟩
  ·rintro i j h av an ⟨⟨ver,D,L,E,G,H,A,Lk,P,Q,Th,K,e,aE,aN,aX,U,V⟩,o,v,u,x,y,bn⟩;have eE:=er av;have eF:=eo (i+1);have S:=e.get;simp at S;have⟨X,a6,M,l⟩:=(e.gr 4 rfl).lP (cx:=cx) (f:=T.str) e.ok rn rfl wW rfl dy dy (d.dH[i].name) dz;have⟨s,a7,I⟩:=e.app 4 rfl l;have⟨g,m⟩:=I _ rfl;simp at s g m;simp[u,y,bn,av,o.get,S,M,s,dX,l.1.ir,l.1.cells];have c4:=o.step g;have ey:=v.step g;have ca:=m.get;simp at ca;generalize dY a6 2 _=eH at*
   simp[u,bn,av,c4.get,ca,(m.gr 5 rfl).qP,Cf];refine iy NY dy ⟨K,A,i,0,d.dH[i].body⟩ ⟨⟨rfl,m.gr 5 rfl,m.ok,dA⟩,dA⟩ ?_;rintro _ eI ⟨eB,eV,c9,rfl,dv,bN⟩;simp only at dv bN;have⟨s,a7,I⟩:=m.app 5 rfl bN;have⟨Ie,c6⟩:=I _ rfl;simp at s Ie c6;simp[u,x,y,bn,s,dX,bN.1.ir,bN.1.cells,an];exact⟨⟨ver+1+1,D,L,E,G,X,eB,Lk,P,Q,_,c9,c6,aE,aN,aX,dz,J⟩,c4.step Ie,ey.step Ie⟩
  ·rintro j h ⟨⟨ver,D,L,E,G,H,A,Lk,P,Q,Th,K,e,aE,aN,aX,U,V⟩,o,v,u,x,y,bn⟩;have S:=e.get;simp at S;have a8:=e.qD v (dE 6 1 [.agg [D,L,E,G,H,A]]);have b7:=v.get;unfold H6 at b7;have dk:(dY h 1 (dE 6 1 [.agg [D,L,E,G,H,A]])).get 1=_:=(dN b7 _ 1).trans (aq rfl);simp[u,x,y,bn,o.get,S,b7,dX,dk,(a8.gr 0 rfl).fz dy,(a8.gr 1 rfl).fz dy,(a8.gr 2 rfl).fz dy,(a8.gr 3 rfl).fz dy,(a8.gr 4 rfl).fz dy,(a8.gr 5 rfl).fz dy];refine⟨⟨_,rfl,λ_=>⟨dA,dA,dA,dA,dA,?_⟩⟩,e.ok.hp⟩;obtain⟨c,eb,hk,bC⟩:=eh;have ap:=aA c (by rw[aK];exact eb) hk;unfold KQ at ap;rw[bC]at ap;rcases HU (z.map io.name) [113] 0 with R|⟨n,b6,R⟩
   ·have:=HV (z.map io.name) [113] 0;rw[R,eq_true ap]at this;simp at this
   ·exact⟨n,by simpa using b6,by rw[R];simp⟩
 ·have⟨eA,b9⟩:=nG.start (h:=((hE.cons (dE 2 0 [d.t])).cons H6).cons H6) (w:=2) (szw:=6) (ver:=0) (F:=[(dD,some (5,[])),(dD,some (2,[])),(dD,some (2,[])),(dD,some (1,[])),(dD,some (1,[])),(dD,some (3,[]))]) ⟨dy,dy,dy⟩ (by simp[H6]) dy;exact⟨[],⟨0,_,_,_,_,_,_,[],[],[],[],[],eA,dy,dy,dy,dy,dy⟩,⟨dy,λq=>absurd (b9 0 q) dB⟩,⟨by simp[H6],λq=>absurd (b9 1 q) dB⟩,dy⟩
def eT(a:Int×T):T:= .agg [.int .i64 a.1,a.2]
def ada{e:H}{c:Nat->Prop}{g:Int}{b d f:Nat}{a:List fR}(h:c b)(j:e.jw (.arr b d 0 f false)=some (a.map fR.t)):FT e c 4 (eT (g,.arr b d 0 f false)) (ge.t ⟨g,a⟩):=by
 have i:∀a:List fR,iF (FT e c 2) (a.map fR.t) (a.map fR.t):=λa=>by
  induction a with
  |nil=>exact .nil
  |cons l a k=>exact .cons (.inr (.inr ⟨_,_,rfl,.cons (fV ..) (.cons (fV ..) (.cons (fV ..) (.cons (fV ..) (.cons (fV ..) (.cons (fV ..) .nil))))),rfl⟩)) k
 exact .inr (.inr ⟨_,_,rfl,.cons (fV ..) (.cons (.inr (.inl ⟨b,d,0,f,false,_,_,rfl,h,j,i a,rfl⟩)) .nil),rfl⟩)
def PcS(W:dZ)(a:H)(f:Nat):Prop:=∃g e,∃b:List (Int×T),∃d:List ge,nG a 2 7 g [(sl (W.cells.map io.t),none),(sl (W.ei.map iI.t),none),(sl (W.gJ.map jb.t),none),(sl (W.d8.map T.str),none),(sl (W.dH.map T.str),none),(sl (W.iJ.map iK.t),none),(e,some (2,b.map eT))]/\
 iF (FT a (λc=>2<c/\c<a.size/\¬Fp a 2 c) 4) (b.map eT) (d.map ge.t)/\b.length=f/\∀h∈d,h.jm.length<=10000001
def RF{h:H}{w:Nat}{x:iX}(f:h.get w=some x)(g:∀b∈fF x.fc,dS b=none)(c:Nat)(e:Fp h w c):c=w:=by
 rcases e with a|⟨j,d,b,i,a⟩
 ·exact a
 ·rw[f]at d;cases d;rw[g b i]at a;simp at a
structure Kp(h h':H):Prop where
 sz:h.size<h'.size
 get:∀b,b<h.size->h'.get b=h.get b
 fp:∀b,Fp h' h.size b->h.size<=b
def Kp.step{c f g:H}(b:Kp c f)(e:Step c.size f g):Kp c g:=
 ⟨bD b.sz e.ok.sz,λa d=>(e.get a (by have:=b.sz;omega) λh=>by have:=b.fp a h;omega).trans (b.get a d),λa d=>(e.fp a d).elim (b.fp a) λh=>by have:=b.sz;omega⟩
def Kp.new{h:H}(g:hU 0 h)(W:dZ)(a:List (List Nat))(c:Int):Kp h (h.cons ⟨10,0,0,true,false,[.agg (tV W a (.dK [] false) 0 c)]⟩)/\Gn W a 0 (h.cons ⟨10,0,0,true,false,[.agg (tV W a (.dK [] false) 0 c)]⟩) h.size:=by
 have f:=RF (h:=h.cons ⟨10,0,0,true,false,[.agg (tV W a (.dK [] false) 0 c)]⟩) (w:=h.size) (x:=⟨10,0,0,true,false,[.agg (tV W a (.dK [] false) 0 c)]⟩) (by rw[dT,aq rfl]) (λi e=>by
  simp[fF,tV,T.cells]at e;rcases e with rfl|rfl|rfl|rfl|rfl|rfl|rfl|rfl|rfl|rfl<;>simp)
 exact⟨⟨dy,λb d=>by rw[dT,ao J],λb d=>by rw[f b d];exact au _⟩,g.cons _,λb d=>by rw[f b d];simp,0,.dK [] false,0,c,[],by rw[dT,aq rfl],Gr.nil _ _,rfl⟩
structure Sn(h h':H):Prop where
 ok:hU 0 h'
 size:h'.size=h.size+1
 get:∀c,c<h.size->h'.get c=h.get c
def Sn.new{h:H}(c:hU 0 h)(a:iX):Sn h (h.cons a):=⟨c.cons a,dy,λd e=>by rw[dT,ao J]⟩
theorem Sn.put{a b:H}(d:Sn a b){x:iX}(g:b.get a.size=some x)(e:iX):Sn a (dY b a.size e):=⟨d.ok.put _ e,by rw[fJ];exact d.size,λc f=>by rw[dN g,ao J];exact d.get c f⟩
def Jy:iX:=⟨7,0,0,true,false,[.agg [.dK [] false,.dK [] false,.dK [] false,.dK [] false,.dK [] false,.dK [] false,.dK [] false]]⟩
def BF:oa prog cx 57 (λc:fK=>[c.t]) (λc=>N7 c/\c.dH.length<=100) (λc m=>∃(b:jU) (e l:Int),m= .tuple [b.t,.int .i64 e,.int .i64 l]/\∀L∈b.dH,L.jm.length<=10000001):=by
 refine yV (tb:=⟨pt [(102,j7.jA),(103,Dh.jA),(106,oH)],ht [(104,EE 10000001),(105,jI Es u6 rL)]⟩) iL iB (iQ 19808249554385699031857790975 [] func57) (λc=>10000005) (λU j h=>by simp at h;exact fK.inj h) dy nl9 ?_;rintro c ⟨bX,e4⟩ a b6;simp at b6;have bn:=bX.1;have c9:=λ{tb:fy} (ht:tb.p 102=some j7.jA)=>c04 ht c bn;obtain⟨_,⟨W,rfl,a7⟩,dd⟩:=Dh.use c bX;simp[f57,b6,c9];refine ee (λY=>?_) (λY=>?_)
 ·simp at Y;simp[Y];exact⟨⟨⟨[],[],[],[],[],[]⟩,[]⟩,rfl,dy⟩
 have a7:=a7 (by simpa using Y);simp[dd];refine fk c.dH.length J (λi a h=>PcS W h i/\Lb 2 h 0 ⟨2,0,0,true,false,[c.t]⟩/\Lb 2 h 1 Jy/\TI.dL a 1=some (.ptr 0 0 0 0)/\TI.dL a 2=some (.ptr 1 0 0 0)/\TI.dL a 7=some (.ptr 2 0 0 0)/\(∃ap:Int,TI.dL a 8=some (.int .i64 ap))/\TI.dL a 9=some (.int .i64 i)) ?_ ?_ J ?_
 ·rintro i a h ae dv ⟨c1,S,R,s,y,u,⟨ap,z⟩,v⟩;have fe:=c1;obtain⟨ver,av,E,X,g,U,hE,a8⟩:=c1;have Q:=g.get;simp at Q;have et:(0=h.size)=False:=by have:=g.lt;simp;omega
  have eV:(2=h.size)=False:=by have:=g.lt;simp;omega
  simp[s,u,z,v,ae,S.get,Q,et];have ht:=bn.1.2.2 c.dH[i] (aD ae);have er:=bn.2.2.1 c.dH[i] (aD ae);have e5:c.dH[i]? =some c.dH[i]:=az ae;generalize c.dH[i]=t at*
  have⟨r,eu⟩:=Kp.new g.ok W t.locals ap;refine MV (NT 10000001) dy eu a7 ht.1 er J J λeL cy eD e7 e8 cb=>?_;replace r:=r.step eD;have⟨fo,fb,fi,bu,eH,gA,dk,ds⟩:=cb.ex;have⟨Ie,ey⟩:=cb.IQ gA dk ds (-1) bu;replace r:=r.step Ie;simp only[tV]at gA;simp[gA,dX];refine oX (i:=⟨28,0,0,0,0,0⟩) dy ey J λI eE cp=>?_;replace r:=r.step eE;have⟨fs,fl,e9,c7,j,V,fv,eI,eF,gC,aE,eO,ef,ca,eM,eh⟩:=cp.opn J;have eW:(I.size=h.size)=False:=by have:=r.sz;simp;omega
  have b7:j<I.size:=H.fa aE;have eP:=r.fp j ef;have cL:=cp.ok;simp only[tV]at gC;have eU:cy+1<=1000001:=J;generalize cy+1=O at*
  generalize b8:h.size=P at*
  simp[gC,cL.low];refine fk O J (λk a x=>∃(m:Int) (C:Nat),Sn I x/\x.get I.size=some ⟨2,0,C,true,false,[.agg [.int .i64 m,.arr j V 0 O false]]⟩/\TI.dL a 1=some (.ptr 0 0 0 0)/\TI.dL a 2=some (.ptr 1 0 0 0)/\TI.dL a 7=some (.ptr 2 0 0 0)/\TI.dL a 8=some (.int .i64 bu)/\TI.dL a 9=some (.int .i64 i)/\TI.dL a 10=some (.ptr P 0 0 0)/\TI.dL a 11=some (.ptr I.size 0 0 0)/\TI.dL a 12=some (.int .i64 k)) ?_ ?_ J ?_
  ·rintro k a x b9 ea ⟨m,C,o,A,s,y,u,z,v,D,M,G⟩;have aA:=(o.get P (by rw[<-b8];exact r.sz)).trans gC;have dm:=(o.get j b7).trans aE;have⟨L,bs⟩:=eh k b9;simp[D,G,aA,dm,b9,bs,vx];have eX:(jd L).length<=3:=by unfold jd;(repeat' split)<;>simp
   refine fk (jd L).length J (λn a x=>∃(m:Int) (C:Nat),Sn I x/\x.get I.size=some ⟨2,0,C,true,false,[.agg [.int .i64 m,.arr j V 0 O false]]⟩/\TI.dL a 1=some (.ptr 0 0 0 0)/\TI.dL a 2=some (.ptr 1 0 0 0)/\TI.dL a 7=some (.ptr 2 0 0 0)/\TI.dL a 8=some (.int .i64 bu)/\TI.dL a 9=some (.int .i64 i)/\TI.dL a 10=some (.ptr P 0 0 0)/\TI.dL a 11=some (.ptr I.size 0 0 0)/\TI.dL a 12=some (.int .i64 k)/\TI.dL a 13=some (sl ((jd L).map (T.int .i64)))/\TI.dL a 14=some (.int .i64 n)) ?_ ?_ J ⟨m,C,o,A,by simp[s,y,u,z,v,D,M,G]⟩
   ·rintro n a x bi eb ⟨m,C,o,A,s,y,u,z,v,D,M,G,aN,aX⟩;simp[s,y,u,z,v,D,M,G,aN,aX,bi,A,oN,dX];exact⟨o.put A _,⟨_,_,(dN A _ _).trans (aq rfl)⟩,by simpa[oN]using eb⟩
   ·rintro a x ⟨m,C,o,A,s,y,u,z,v,D,M,G,aN,aX⟩;simp[s,y,u,z,v,D,M,G,aN,aX,ea];exact⟨o,m,C,A⟩
  ·rintro a x ⟨m,C,o,A,s,y,u,z,v,D,M,G⟩;have N:∀b,b<h.size->x.get b=h.get b:=λb B=>(o.get b (by have:=r.sz;omega)).trans (r.get b B);have bB:=g.step o.ok λb B=>N b (g.fp b B);have bT:=bB.get;simp at bT;have⟨bC,a6,bN,bH⟩:=(bB.gr 6 rfl).lP (cx:=cx) (f:=eT) o.ok UV rfl UO rfl dy (λL=>rfl) (m,.arr j V 0 O false) dz;have⟨c4,ff,eA⟩:=bB.app 6 rfl bH;have⟨K,c6⟩:=eA _ rfl;simp at c4 K c6;simp only[eT]at bN;have aA:=(o.get P (by rw[<-b8];exact r.sz)).trans gC;simp[aA,s,y,u,z,v,D,M,G,A,bT,bN,c4,dX,bH.1.ir,bH.1.cells,dv];have e0:=o.size;have eR:=r.sz;have al:=iT (N 2 g.lt);have ec:∀b,b<P->¬Fp h 2 b->(dY a6 2 _).get b=h.get b:=λb B bi=>(K.get b J (by rw[al];exact bi)).trans (N b J);have eS:=g.lt;refine⟨⟨_,bC,E++[(m,.arr j V 0 O false)],X++[⟨m,c7⟩],by simpa using c6,?_,dz,λL bs=>?_⟩,(S.kU (N 2 g.lt) (N 0 S.lt)).step K,(R.kU (N 2 g.lt) (N 1 R.lt)).step K⟩
   ·rw[List.map_append,List.map_append];have e6:x.size<=(dY a6 2 (⟨7,0,ver+1,true,false,[.agg [sl (W.cells.map io.t),sl (W.ei.map iI.t),sl (W.gJ.map jb.t),sl (W.d8.map T.str),sl (W.dH.map T.str),sl (W.iJ.map iK.t),bC]]⟩:iX)).size:=K.ok.sz;refine iF.append (U.ft λb B=>⟨⟨B.1,J,λq=>?_⟩,ec b B.2.1 B.2.2⟩) (.cons (ada ⟨J,J,λq=>?_⟩ ?_) .nil)
    ·rcases K.fp b q with q|q
     ·rw[al]at q;exact B.2.2 q
     ·omega
    ·rcases K.fp j q with q|q
     ·rw[al]at q;have:=g.fp j q;omega
     ·omega
    ·have dn:(dY a6 2 (⟨7,0,ver+1,true,false,[.agg [sl (W.cells.map io.t),sl (W.ei.map iI.t),sl (W.gJ.map jb.t),sl (W.d8.map T.str),sl (W.dH.map T.str),sl (W.iJ.map iK.t),bC]]⟩:iX)).get j=_:=((K.get j J λq=>by rw[al]at q;have:=g.fp j q;omega).trans (o.get j b7)).trans aE;have eo:O<=eF.length:=by
      have:=bR List.length ca;rw[List.length_take,aG]at this;omega
     rw[ik,dn];simp[eo,ca]
   ·rcases List.mem_append.1 bs with q|q
    ·exact a8 L q
    ·rw[List.mem_singleton.1 q];simp only;omega
  ·exact⟨t.locals.length,1,Sn.new cL _,dy,by simp[s,y,u,v]⟩
 ·rintro a h ⟨⟨ver,av,E,X,g,U,hE,a8⟩,S,R,s,y,u,⟨ap,z⟩,v⟩;have Q:=g.get;simp at Q;have an:=R.get;unfold Jy at an;have eC:=g.qD R ⟨7,0,1,true,false,[.agg [sl (W.cells.map io.t),sl (W.ei.map iI.t),sl (W.gJ.map jb.t),sl (W.d8.map T.str),sl (W.dH.map T.str),sl (W.iJ.map iK.t),av]]⟩;have di:(dY h 1 ⟨7,0,1,true,false,[.agg [sl (W.cells.map io.t),sl (W.ei.map iI.t),sl (W.gJ.map jb.t),sl (W.d8.map T.str),sl (W.dH.map T.str),sl (W.iJ.map iK.t),av]]⟩).get 1=_:=(dN an _ 1).trans (aq rfl);have de:=(eC.gr 6 rfl).Jl (d:=4) J (U.ft (V':=λ_=>True) λj eN=>⟨trivial,by rw[dN an,ao J]⟩);simp[s,y,u,v,S.get,Q,an,dX,di,de];exact⟨⟨⟨W,X⟩,rfl,a8⟩,g.ok.hp⟩
 ·have⟨eB,bS⟩:=nG.start (h:=((hE.cons ⟨2,0,0,true,false,[c.t]⟩).cons Jy).cons ⟨7,0,1,true,false,[.agg [sl (W.cells.map io.t),sl (W.ei.map iI.t),sl (W.gJ.map jb.t),sl (W.d8.map T.str),sl (W.dH.map T.str),sl (W.iJ.map iK.t),.dK [] false]]⟩) (w:=2) (szw:=7) (ver:=1) (F:=[(sl (W.cells.map io.t),none),(sl (W.ei.map iI.t),none),(sl (W.gJ.map jb.t),none),(sl (W.d8.map T.str),none),(sl (W.dH.map T.str),none),(sl (W.iJ.map iK.t),none),(.dK [] false,some (2,[]))]) ⟨dy,dy,dy⟩ (by simp[Jy]) dy;exact⟨⟨_,_,[],[],eB,.nil,rfl,dy⟩,⟨dy,λq=>absurd (bS 0 q) dB⟩,⟨by simp[Jy],λq=>absurd (bS 1 q) dB⟩,dy⟩
