/- W06w -/
import Derived.Test.YtajpdafdickapaaGreatDoorA20
import Derived.Test.YtajpdafdickapaaGreatDoorA23
set_option linter.all false
set_option maxRecDepth 100000
set_option maxHeartbeats 8000000
namespace Go.Proofs.YtajpdafdickapaaGreatDoor
noncomputable section
open Go Go.TI Tryz
attribute [-simp] List.map_take List.map_drop List.map_append fy fa eg Bool.not_or Bool.not_and
attribute [simp] fw fc
structure ISi where
 (O:List iK) (v:T) (t n:Int) (l:List dO)
def aa2(a:ISi)(c:List T)(b:H):Prop:=c=[a.v,Z a.t,Z a.n,sl (a.l.map dO.t)]/\Gr b a.v 3 (a.O.map iK.t)/\il 0 b/\a.O.length+dO.ws a.l<=10000000
def Wy(a:ISi)(h:List T)(d:H)(g:T)(e:H):Prop:=∃c f,∃b:List iK,g= .tuple [c,Z f]/\b.length<=a.O.length+dO.ws a.l/\Xt d a.v 3 (b.map iK.t) c e
abbrev rSi(d:Nat):li:=jM ISi (λa b c=>aa2 a b c/\dO.ws a.l<d) Wy
def JN(y:Nat)(C:(rSi y).Ok prog cx 154):(rSi (y+1)).Ok prog cx 154:=by
 refine jB (tb:=⟨pt [],ht [(154,rSi y)]⟩) iR iE (iX 18191 [] func154) (λ_ _=>10000005) (λa V k L=>by obtain⟨⟨rfl,_⟩,_⟩:=L;simp[f154]) ?_;rintro⟨u,s,n,M,l⟩ _ k ⟨⟨rfl,z,O,K⟩,I⟩ c A;simp only at z K I;simp at A;obtain⟨m,d,h,b⟩:=A;have hl:=dO.uZ (l:=l);have T:Xt (hr k) s 3 (u.map iK.t) s (hr k):=Xt.refl (z.mono λF _=>ik k F) O.hr;simp[f154];refine fD l.length J (λa c v=>∃o i,∃e:List iK,dF c 0 o/\dF c 1 (Z n)/\dF c 2 (Z i)/\dF c 3 (sl (l.map dO.t))/\dF c 10 (Z a)/\e.length<=u.length+dO.ws (l.take a)/\Xt (hr k) s 3 (e.map iK.t) o v) ?_ ?_ J ⟨s,M,u,by simp[m,d,h,b,T]⟩
 ·rintro a c v x H ⟨o,i,e,m,d,h,b,g,w,j⟩;have an:=dO.Gb l x;have al:=dO.yd l (a+1);have⟨R,W,G,p⟩:=j.1.mn (cx:=cx) (f:=iK.t) ⟨j.2.2.2.hp,j.2.2.2.low,ax _⟩ XP rfl TW rfl dy dy (⟨n,i,l[a].uX⟩:iK) dz;simp[m,d,h,b,g,x];have B:l[a]? =some l[a]:=az x;generalize l[a]=r at*
  have ae:=r.lF;simp[d,h,b,g,G,oG,B,p.1.rS,Ck];refine iC C dy ⟨e++[⟨n,i,r.uX⟩],R,n,_,r.body⟩ ⟨⟨rfl,p.1,⟨p.2.2.2.hp,p.2.2.2.low,ax _⟩,dz⟩,dA⟩ ?_;rintro _ X ⟨S,N,D,rfl,P,q⟩;simp only[bj,List.length_singleton]at P;simp[d,b,g,B,q.1.rS,Ck];refine iC C dy ⟨D,S,n,N,r.NW⟩ ⟨⟨rfl,q.1,⟨q.2.2.2.hp,q.2.2.2.low,ax _⟩,dA⟩,dA⟩ ?_;rintro _ Y ⟨av,ap,E,rfl,Q,U⟩;simp only at Q;simp[d,b,g,H];exact⟨E,J,((j.trans p).trans q).trans U⟩
 ·rintro c v ⟨o,i,e,m,d,h,b,g,w,j⟩;rw[aK]at w;simp[m,h,b,g];exact⟨o,i,e,rfl,w,j.out⟩
def Nl:(rSi 10000001).Ok prog cx 154:=Al (λa:ISi=>dO.ws a.l) JN 10000001
def e04(c:fN):Int:=Classical.epsilon λa=>∃b,j3.jv.R c= .tuple [Z a,Z b]
def l04(a:fN):Int:=Classical.epsilon λb=>j3.jv.R a= .tuple [Z (e04 a),Z b]
def c04{c:fJ}(ht:c.p 102=some j3.jv)(p:fN)(b:Ka p):rl prog cx c 102 [p.t]=some (.tuple [Z (e04 p),Z (l04 p)]):=by
 have e:∃a,j3.jv.R p= .tuple [Z (e04 p),Z a]:=Classical.epsilon_spec (p:=λd=>∃a,j3.jv.R p= .tuple [Z d,Z a]) (j3.2 p b);exact(im ht j3.1 p b).trans (bE some (Classical.epsilon_spec e))
def Nt(b:fN):Prop:=Ka b/\b.js.length<=100/\(∀a∈b.js,a.size<=4)/\∃a∈b.js,a.kind=1/\a.name=[113]
def Zv(m:H)(a n f:Nat)(e:List iq):Prop:=∃o g h i j k l,∃(Lk:List iI) (b:List ja) (c Th:List (List Nat)) (d:List iK),ny m 2 6 o [(g,some (5,e.map iq.t)),(h,some (2,Lk.map iI.t)),(i,some (2,b.map ja.t)),(j,some (1,c.map T.str)),(k,some (1,Th.map T.str)),(l,some (3,d.map iK.t))]/\
 Lk.length<=a/\b.length<=a/\c.length<=a/\Th.length<=n/\d.length<=f
def Zv.le{e:H}{b c f d:Nat}{a:List iq}(r:Zv e b f d a)(x:b<=c):Zv e c f d a:=by
 obtain⟨t,j,k,l,m,n,o,Lk,g,h,Th,i,s,u,v,w,p,q⟩:=r;exact⟨t,j,k,l,m,n,o,Lk,g,h,Th,i,s,J,J,J,p,q⟩
def Ki(b:List Nat)(a:List iq):Prop:=b∈a.map iq.name
def HE:iY:=(dE 6 0 [.agg [dD,dD,dD,dD,dD,dD]])
def Dl:nS prog cx 103 (λd:fN=>[d.t]) Nt (λd r=>∃W:dY,r=W.t/\(e04 d=0->okW W)):=by
 refine yL (tb:=⟨pt [(102,j3.jv),(153,s7)],ht [(154,rSi 10000001)]⟩) iR iE (iX 316913254556860716756833993695 [(21,[(1,8),(3,8)])] func103) (λd=>1000005) (λa b h=>by simp at h;exact fN.inj h) dy nl9 ?_;rintro d ⟨bH,eO,bB,er⟩ j cp;simp at cp;have di:=λ{tb:fJ} (ht:tb.p 102=some j3.jv)=>c04 ht d bH;have hl:=bH.1.1;simp[f103,cp,di];refine ej (λb6=>?_) (λb6=>?_)
 ·simp at b6;simp[b6];exact⟨⟨[],[],[],[],[],[]⟩,rfl⟩
 simp;refine fD d.js.length J (λi j h=>∃z,Zv h i 0 0 z/\Lb 2 h 0 (dE 2 0 [d.t])/\Lb 2 h 1 HE/\z.length<=4*i/\(∀c∈d.js.take i,c.kind=1->Ki c.name z)/\dF j 1 (.ptr 0 0 0 0)/\dF j 2 (.ptr 1 0 0 0)/\dF j 3 (.ptr 2 0 0 0)/\dF j 6 (Z i)) ?_ ?_ J ?_
 ·rintro i j h av an ⟨z,⟨ver,D,L,E,G,H,A,Lk,P,Q,Th,K,e,aE,aN,aX,U,V⟩,o,v,ds,aA,u,x,y,O⟩;have S:=e.get;simp at S;have eR:(0=h.size)=False:=by have:=e.lt;simp;omega
  have eS:(2=h.size)=False:=by have:=e.lt;simp;omega
  have bs:∀c∈d.js.take (i+1),c∈d.js.take i\/c=d.js[i]:=λc bB=>by
   rw[aQ av]at bB;exact(List.mem_append.1 bB).imp id λq=>List.mem_singleton.1 q
  have eV:=bB d.js[i] (aF av);simp[u,O,av,o.get,e.ok.low];generalize d.js[i]=c at*
  have B:=e.cons (dE 6 1 [c.t]);have dd:=Step.cons e.ok e.lt (dE 6 1 [c.t]);have Y:=Lb.new e.lt e.fp (dE 6 1 [c.t]);replace o:=o.step dd;replace v:=v.step dd;have bi:(h.cons (dE 6 1 [c.t])).get 2=h.get 2:=by rw[dS,aq (by have:=e.lt;omega)]
  rw[S]at bi;generalize eU:h.size=b9 at*
  generalize h.cons (dE 6 1 [c.t])=eF at*
  by_cases ey:c.kind=1\/c.kind=2
  ·have bu:∃N:Nat,max c.size 1=N/\1<=N/\N<=4:=⟨(max c.size 1).toNat,J,J,J⟩;obtain⟨N,bu,ea,eN⟩:=bu;rcases ey with hk|hk<;>(
    simp[hk];refine fD N J (λk j h=>∃al,Zv h i 0 0 al/\Lb 2 h 0 (dE 2 0 [d.t])/\Lb 2 h 1 HE/\Lb 2 h b9 (dE 6 1 [c.t])/\al.length<=4*i+k/\(∀n,Ki n z->Ki n al)/\(1<=k->Ki c.name al)/\dF j 1 (.ptr 0 0 0 0)/\dF j 2 (.ptr 1 0 0 0)/\dF j 3 (.ptr 2 0 0 0)/\dF j 6 (Z i)/\dF j 7 (.ptr b9 0 0 0)/\dF j 8 (Z k)) ?_ ?_ J ⟨z,⟨ver,D,L,E,G,H,A,Lk,P,Q,Th,K,B,aE,aN,aX,U,V⟩,o,v,Y,J,λ_ h=>h,λh=>by omega,by simp[u,x,y,O]⟩
    ·rintro k j h eh ec ⟨al,⟨ver,D,L,E,G,H,A,Lk,P,Q,Th,K,e,aE,aN,aX,U,V⟩,o,v,Y,dv,ap,bC,u,x,y,O,bS,bT⟩;have S:=e.get;simp at S;have eP:(k:Int)<max c.size 1:=J;have⟨X,a6,M,l⟩:=(e.gr 0 rfl).mn (cx:=cx) (f:=iq.t) e.ok XR rfl TX rfl dy dy (⟨c.name,k,c.size,decide (c.kind=2),c.jF⟩:iq) dz;have⟨s,a7,I⟩:=e.app 0 rfl l;have⟨g,m⟩:=I _ rfl;simp at s g m;simp[hk]at M;simp[hk,u,x,y,O,bS,bT,Y.get,S,eh,bu,M,s,dX,l.1.iy,l.1.cells,ec];exact⟨_,⟨ver+1,X,L,E,G,H,A,Lk,P,Q,Th,K,m,aE,aN,aX,U,V⟩,o.step g,v.step g,Y.step g,dz,λn b7=>by have:=ap n b7;unfold Ki at*;rw[List.map_append];exact cW _ this,by unfold Ki;simp⟩
    ·rintro j h ⟨al,eE,o,v,Y,dv,ap,bC,u,x,y,O,bS,bT⟩;simp[hk,u,x,y,O,bS,bT,Y.get,bu,an];exact⟨al,eE.le J,o,v,J,λC ae eo=>by
      rcases bs C ae with q|rfl
      ·exact ap _ (aA C q eo)
      ·exact bC ea⟩)
  have eA:¬c.kind=1/\¬c.kind=2:=J;by_cases c1:c.kind=3
  ·have⟨X,a6,M,l⟩:=(B.gr 1 rfl).mn (cx:=cx) (f:=iI.t) B.ok Rb rfl L7 rfl dy dy (⟨c.name,false⟩:iI) dz;have⟨s,a7,I⟩:=B.app 1 rfl l;have⟨g,m⟩:=I _ rfl;simp at s g m;simp[c1,u,x,y,O,Y.get,bi,an,M,s,dX,l.1.iy,l.1.cells];exact⟨z,⟨ver+1,D,X,E,G,H,A,_,P,Q,Th,K,m,dz,J,J,U,V⟩,o.step g,v.step g,J,λC ae hk=>aA C ((bs C ae).resolve_right λR=>by subst R;omega) hk⟩
  by_cases c4:c.kind=4
  ·have⟨X,a6,M,l⟩:=(B.gr 1 rfl).mn (cx:=cx) (f:=iI.t) B.ok Rb rfl L7 rfl dy dy (⟨c.name,true⟩:iI) dz;have⟨s,a7,I⟩:=B.app 1 rfl l;have⟨g,m⟩:=I _ rfl;simp at s g m;simp[c4,u,x,y,O,Y.get,bi,an,M,s,dX,l.1.iy,l.1.cells];exact⟨z,⟨ver+1,D,X,E,G,H,A,_,P,Q,Th,K,m,dz,J,J,U,V⟩,o.step g,v.step g,J,λC ae hk=>aA C ((bs C ae).resolve_right λR=>by subst R;omega) hk⟩
  by_cases c6:c.kind=5
  ·have dm:=(B.gr 1 rfl).rS dy;have dk:=λ{tb:fJ} (h:tb.p 153=some s7)=>Mp h Lk c.on J;have⟨X,a6,M,l⟩:=(B.gr 2 rfl).mn (cx:=cx) (f:=ja.t) B.ok XQ rfl TY rfl dy dy (⟨c.name,sN (Lk.map iI.name) c.on 0⟩:ja) dz;have⟨s,a7,I⟩:=B.app 2 rfl l;have⟨g,m⟩:=I _ rfl;simp at s g m;simp[c6,u,x,y,O,Y.get,bi,an,M,s,dX,l.1.iy,l.1.cells,dm,dk];exact⟨z,⟨ver+1,D,L,X,G,H,A,Lk,_,Q,Th,K,m,J,dz,J,U,V⟩,o.step g,v.step g,J,λC ae hk=>aA C ((bs C ae).resolve_right λR=>by subst R;omega) hk⟩
  ·have⟨X,a6,M,l⟩:=(B.gr 3 rfl).mn (cx:=cx) (f:=T.str) B.ok qY rfl wO rfl dy dy (c.name) dz;have⟨s,a7,I⟩:=B.app 3 rfl l;have⟨g,m⟩:=I _ rfl;simp at s g m;simp[eA,c1,c4,c6,u,x,y,O,Y.get,bi,an,M,s,dX,l.1.iy,l.1.cells];exact⟨z,⟨ver+1,D,L,E,X,H,A,Lk,P,_,Th,K,m,J,J,dz,U,V⟩,o.step g,v.step g,J,λC ae hk=>aA C ((bs C ae).resolve_right λR=>by subst R;omega) hk⟩
 ·rintro j h ⟨z,⟨ver,D,L,E,G,H,A,Lk,P,Q,Th,K,e,aE,aN,aX,U,V⟩,o,v,ds,aA,u,x,y,O⟩;have eW:=bH.1.2.1;have eu:∀{i:Nat} (cL:i<d.dH.length),qp (d.dH.take (i+1))=qp (d.dH.take i)+dO.ws d.dH[i].body:=λ{i} cL=>by
   unfold qp;rw[aQ cL,List.map_append,List.sum_append];simp
  have et:∀i,qp (d.dH.take i)<=1000000:=λi=>by
   have:qp d.dH<=1000000:=bH.2.1;have x:qp d.dH=qp (d.dH.take i)+qp (d.dH.drop i):=by unfold qp;rw[<-List.sum_append,<-List.map_append,cQ]
   omega
  simp[u,O,o.get];refine fD d.dH.length J (λi j h=>Zv h 1000000 i (qp (d.dH.take i)) z/\Lb 2 h 0 (dE 2 0 [d.t])/\Lb 2 h 1 HE/\dF j 1 (.ptr 0 0 0 0)/\dF j 2 (.ptr 1 0 0 0)/\dF j 3 (.ptr 2 0 0 0)/\dF j 9 (Z i)) ?_ ?_ J ⟨⟨ver,D,L,E,G,H,A,Lk,P,Q,Th,K,e,J,J,J,U,by simpa[qp]using V⟩,o,v,by simp[u,x,y]⟩
  ·rintro i j h av an ⟨⟨ver,D,L,E,G,H,A,Lk,P,Q,Th,K,e,aE,aN,aX,U,V⟩,o,v,u,x,y,bn⟩;have eH:=eu av;have eI:=et (i+1);have S:=e.get;simp at S;have⟨X,a6,M,l⟩:=(e.gr 4 rfl).mn (cx:=cx) (f:=T.str) e.ok qY rfl wO rfl dy dy (d.dH[i].name) dz;have⟨s,a7,I⟩:=e.app 4 rfl l;have⟨g,m⟩:=I _ rfl;simp at s g m;simp[u,y,bn,av,o.get,S,M,s,dX,l.1.iy,l.1.cells];have c7:=o.step g;have eB:=v.step g;have cb:=m.get;simp at cb;generalize dZ a6 2 _=eL at*
   simp[u,bn,av,c7.get,cb,(m.gr 5 rfl).rS,Ck];refine iC Nl dy ⟨K,A,i,0,d.dH[i].body⟩ ⟨⟨rfl,m.gr 5 rfl,m.ok,dA⟩,dA⟩ ?_;rintro _ eM ⟨eD,eX,de,rfl,eb,bN⟩;simp only at eb bN;have⟨s,a7,I⟩:=m.app 5 rfl bN;have⟨HM,c9⟩:=I _ rfl;simp at s HM c9;simp[u,x,y,bn,s,dX,bN.1.iy,bN.1.cells,an];exact⟨⟨ver+1+1,D,L,E,G,X,eD,Lk,P,Q,_,de,c9,aE,aN,aX,dz,J⟩,c7.step HM,eB.step HM⟩
  ·rintro j h ⟨⟨ver,D,L,E,G,H,A,Lk,P,Q,Th,K,e,aE,aN,aX,U,V⟩,o,v,u,x,y,bn⟩;have S:=e.get;simp at S;have a8:=e.qx v (dE 6 1 [.agg [D,L,E,G,H,A]]);have b8:=v.get;unfold HE at b8;have dn:(dZ h 1 (dE 6 1 [.agg [D,L,E,G,H,A]])).get 1=_:=(dN b8 _ 1).trans (ar rfl);simp[u,x,y,bn,o.get,S,b8,dX,dn,(a8.gr 0 rfl).fz dy,(a8.gr 1 rfl).fz dy,(a8.gr 2 rfl).fz dy,(a8.gr 3 rfl).fz dy,(a8.gr 4 rfl).fz dy,(a8.gr 5 rfl).fz dy];refine⟨⟨_,rfl,λ_=>⟨dA,dA,dA,dA,dA,?_⟩⟩,e.ok.hp⟩;obtain⟨c,ef,hk,bC⟩:=er;have ap:=aA c (by rw[aK];exact ef) hk;unfold Ki at ap;rw[bC]at ap;rcases Hq (z.map iq.name) [113] 0 with R|⟨n,b7,R⟩
   ·have:=Hr (z.map iq.name) [113] 0;rw[R,eq_true ap]at this;simp at this
   ·exact⟨n,by simpa using b7,by rw[R];simp⟩
 ·have⟨eC,ca⟩:=ny.start (h:=((hE.cons (dE 2 0 [d.t])).cons HE).cons HE) (w:=2) (szw:=6) (ver:=0) (F:=[(dD,some (5,[])),(dD,some (2,[])),(dD,some (2,[])),(dD,some (1,[])),(dD,some (1,[])),(dD,some (3,[]))]) ⟨dy,dy,dy⟩ (by simp[HE]) dy;exact⟨[],⟨0,_,_,_,_,_,_,[],[],[],[],[],eC,dy,dy,dy,dy,dy⟩,⟨dy,λq=>absurd (ca 0 q) dB⟩,⟨by simp[HE],λq=>absurd (ca 1 q) dB⟩,dy⟩
def eT(a:Int×T):T:= .agg [.int .i64 a.1,a.2]
def acl{e:H}{c:Nat->Prop}{g:Int}{b d f:Nat}{a:List fR}(h:c b)(j:e.jw (.arr b d 0 f false)=some (a.map fR.t)):FT e c 4 (eT (g,.arr b d 0 f false)) (gh.t ⟨g,a⟩):=by
 have i:∀a:List fR,iM (FT e c 2) (a.map fR.t) (a.map fR.t):=λa=>by
  induction a with
  |nil=>exact .nil
  |cons l a k=>exact .cons (.inr (.inr ⟨_,_,rfl,.cons (gW ..) (.cons (gW ..) (.cons (gW ..) (.cons (gW ..) (.cons (gW ..) (.cons (gW ..) .nil))))),rfl⟩)) k
 exact .inr (.inr ⟨_,_,rfl,.cons (gW ..) (.cons (.inr (.inl ⟨b,d,0,f,false,_,_,rfl,h,j,i a,rfl⟩)) .nil),rfl⟩)
def PcS(W:dY)(a:H)(f:Nat):Prop:=∃g e,∃b:List (Int×T),∃d:List gh,ny a 2 7 g [(sl (W.cells.map iq.t),none),(sl (W.ei.map iI.t),none),(sl (W.gF.map ja.t),none),(sl (W.ee.map T.str),none),(sl (W.dH.map T.str),none),(sl (W.iJ.map iK.t),none),(e,some (2,b.map eT))]/\
 iM (FT a (λc=>2<c/\c<a.size/\¬Fp a 2 c) 4) (b.map eT) (d.map gh.t)/\b.length=f/\∀h∈d,h.jm.length<=10000001
def QZ{h:H}{w:Nat}{x:iY}(f:h.get w=some x)(g:∀b∈fF x.fg,dT b=none)(c:Nat)(e:Fp h w c):c=w:=by
 rcases e with a|⟨j,d,b,i,a⟩
 ·exact a
 ·rw[f]at d;cases d;rw[g b i]at a;simp at a
structure Kp(h h':H):Prop where
 sz:h.size<h'.size
 get:∀b,b<h.size->h'.get b=h.get b
 fp:∀b,Fp h' h.size b->h.size<=b
def Kp.step{c f g:H}(b:Kp c f)(e:Step c.size f g):Kp c g:=
 ⟨bD b.sz e.ok.sz,λa d=>(e.get a (by have:=b.sz;omega) λh=>by have:=b.fp a h;omega).trans (b.get a d),λa d=>(e.fp a d).elim (b.fp a) λh=>by have:=b.sz;omega⟩
def Kp.new{h:H}(g:il 0 h)(W:dY)(a:List (List Nat))(b:Int):Kp h (h.cons ⟨10,0,0,true,false,[.agg (tW W a (.dK [] false) 0 b)]⟩)/\Gn W a 0 (h.cons ⟨10,0,0,true,false,[.agg (tW W a (.dK [] false) 0 b)]⟩) h.size:=by
 have f:=QZ (h:=h.cons ⟨10,0,0,true,false,[.agg (tW W a (.dK [] false) 0 b)]⟩) (w:=h.size) (x:=⟨10,0,0,true,false,[.agg (tW W a (.dK [] false) 0 b)]⟩) (by rw[dS,ar rfl]) (λi e=>by
  simp[fF,tW,T.cells]at e;rcases e with rfl|rfl|rfl|rfl|rfl|rfl|rfl|rfl|rfl|rfl<;>simp)
 exact⟨⟨dy,λc d=>by rw[dS,aq J],λc d=>by rw[f c d];exact aw _⟩,g.cons _,λc d=>by rw[f c d];simp,0,.dK [] false,0,b,[],by rw[dS,ar rfl],Gr.nil _ _,rfl⟩
structure Sn(h h':H):Prop where
 ok:il 0 h'
 size:h'.size=h.size+1
 get:∀c,c<h.size->h'.get c=h.get c
def Sn.new{a:H}(c:il 0 a)(b:iY):Sn a (a.cons b):=⟨c.cons b,dy,λd e=>by rw[dS,aq J]⟩
theorem Sn.put{a b:H}(d:Sn a b){x:iY}(g:b.get a.size=some x)(e:iY):Sn a (dZ b a.size e):=⟨d.ok.put _ e,by rw[fK];exact d.size,λc f=>by rw[dN g,aq J];exact d.get c f⟩
def I7:iY:=⟨7,0,0,true,false,[.agg [.dK [] false,.dK [] false,.dK [] false,.dK [] false,.dK [] false,.dK [] false,.dK [] false]]⟩
def Bl:nS prog cx 57 (λc:fN=>[c.t]) (λc=>Nt c/\c.dH.length<=100) (λc m=>∃(b:jR) (e l:Int),m= .tuple [b.t,.int .i64 e,.int .i64 l]/\∀L∈b.dH,L.jm.length<=10000001):=by
 refine yL (tb:=⟨pt [(102,j3.jv),(103,Dl.jv),(106,ox)],ht [(104,ES 10000001),(105,jM EH uR rI)]⟩) iR iE (iX 19808249554385699031857790975 [] func57) (λc=>10000005) (λU j h=>by simp at h;exact fN.inj h) dy nl9 ?_;rintro c ⟨b6,e6⟩ a b7;simp at b7;have bn:=b6.1;have de:=λ{tb:fJ} (ht:tb.p 102=some j3.jv)=>c04 ht c bn;obtain⟨_,⟨W,rfl,a7⟩,di⟩:=Dl.use c b6;simp[f57,b7,de];refine ej (λY=>?_) (λY=>?_)
 ·simp at Y;simp[Y];exact⟨⟨⟨[],[],[],[],[],[]⟩,[]⟩,rfl,dy⟩
 have a7:=a7 (by simpa using Y);simp[di];refine fD c.dH.length J (λi a h=>PcS W h i/\Lb 2 h 0 ⟨2,0,0,true,false,[c.t]⟩/\Lb 2 h 1 I7/\TI.dM a 1=some (.ptr 0 0 0 0)/\TI.dM a 2=some (.ptr 1 0 0 0)/\TI.dM a 7=some (.ptr 2 0 0 0)/\(∃ap:Int,TI.dM a 8=some (.int .i64 ap))/\TI.dM a 9=some (.int .i64 i)) ?_ ?_ J ?_
 ·rintro i a h ae eb ⟨c6,S,R,s,y,u,⟨ap,z⟩,v⟩;have fi:=c6;obtain⟨ver,av,E,X,g,U,hE,a8⟩:=c6;have Q:=g.get;simp at Q;have ey:(0=h.size)=False:=by have:=g.lt;simp;omega
  have eX:(2=h.size)=False:=by have:=g.lt;simp;omega
  simp[s,u,z,v,ae,S.get,Q,ey];have ht:=bn.1.2.2 c.dH[i] (aF ae);have eu:=bn.2.2.1 c.dH[i] (aF ae);have e7:c.dH[i]? =some c.dH[i]:=az ae;generalize c.dH[i]=t at*
  have⟨r,eA⟩:=Kp.new g.ok W t.locals ap;refine Mm (Nh 10000001) dy eA a7 ht.1 eu J J λeN c1 eF e9 fb cp=>?_;replace r:=r.step eF;have⟨fv,ff,fo,bu,eL,gA,dn,ea⟩:=cp.ex;have⟨HM,eB⟩:=cp.Ir gA dn ea (-1) bu;replace r:=r.step HM;simp only[tW]at gA;simp[gA,dX];refine oO (i:=⟨28,0,0,0,0,0⟩) dy eB J λI eH cL=>?_;replace r:=r.step eH;have⟨fA,fs,fe,dd,j,V,fB,eM,eI,gC,aE,eR,eo,cb,eO,er⟩:=cL.opn J;have e0:(I.size=h.size)=False:=by have:=r.sz;simp;omega
  have b8:j<I.size:=H.fh aE;have eS:=r.fp j eo;have c4:=cL.ok;simp only[tW]at gC;have eW:c1+1<=1000001:=J;generalize c1+1=O at*
  generalize b9:h.size=P at*
  simp[gC,c4.low];refine fD O J (λk a x=>∃(m:Int) (C:Nat),Sn I x/\x.get I.size=some ⟨2,0,C,true,false,[.agg [.int .i64 m,.arr j V 0 O false]]⟩/\TI.dM a 1=some (.ptr 0 0 0 0)/\TI.dM a 2=some (.ptr 1 0 0 0)/\TI.dM a 7=some (.ptr 2 0 0 0)/\TI.dM a 8=some (.int .i64 bu)/\TI.dM a 9=some (.int .i64 i)/\TI.dM a 10=some (.ptr P 0 0 0)/\TI.dM a 11=some (.ptr I.size 0 0 0)/\TI.dM a 12=some (.int .i64 k)) ?_ ?_ J ?_
  ·rintro k a x ca ec ⟨m,C,o,A,s,y,u,z,v,D,M,G⟩;have aA:=(o.get P (by rw[<-b9];exact r.sz)).trans gC;have ds:=(o.get j b8).trans aE;have⟨L,bs⟩:=er k ca;simp[D,G,aA,ds,ca,bs,vf];have e4:(jb L).length<=3:=by unfold jb;(repeat' split)<;>simp
   refine fD (jb L).length J (λn a x=>∃(m:Int) (C:Nat),Sn I x/\x.get I.size=some ⟨2,0,C,true,false,[.agg [.int .i64 m,.arr j V 0 O false]]⟩/\TI.dM a 1=some (.ptr 0 0 0 0)/\TI.dM a 2=some (.ptr 1 0 0 0)/\TI.dM a 7=some (.ptr 2 0 0 0)/\TI.dM a 8=some (.int .i64 bu)/\TI.dM a 9=some (.int .i64 i)/\TI.dM a 10=some (.ptr P 0 0 0)/\TI.dM a 11=some (.ptr I.size 0 0 0)/\TI.dM a 12=some (.int .i64 k)/\TI.dM a 13=some (sl ((jb L).map (T.int .i64)))/\TI.dM a 14=some (.int .i64 n)) ?_ ?_ J ⟨m,C,o,A,by simp[s,y,u,z,v,D,M,G]⟩
   ·rintro n a x bi ef ⟨m,C,o,A,s,y,u,z,v,D,M,G,aN,aX⟩;simp[s,y,u,z,v,D,M,G,aN,aX,bi,A,oG,dX];exact⟨o.put A _,⟨_,_,(dN A _ _).trans (ar rfl)⟩,by simpa[oG]using ef⟩
   ·rintro a x ⟨m,C,o,A,s,y,u,z,v,D,M,G,aN,aX⟩;simp[s,y,u,z,v,D,M,G,aN,aX,ec];exact⟨o,m,C,A⟩
  ·rintro a x ⟨m,C,o,A,s,y,u,z,v,D,M,G⟩;have N:∀b,b<h.size->x.get b=h.get b:=λb B=>(o.get b (by have:=r.sz;omega)).trans (r.get b B);have bB:=g.step o.ok λb B=>N b (g.fp b B);have bT:=bB.get;simp at bT;have⟨bC,a6,bN,bH⟩:=(bB.gr 6 rfl).mn (cx:=cx) (f:=eT) o.ok T0 rfl TT rfl dy (λL=>rfl) (m,.arr j V 0 O false) dz;have⟨c7,fl,eC⟩:=bB.app 6 rfl bH;have⟨K,c9⟩:=eC _ rfl;simp at c7 K c9;simp only[eT]at bN;have aA:=(o.get P (by rw[<-b9];exact r.sz)).trans gC;simp[aA,s,y,u,z,v,D,M,G,A,bT,bN,c7,dX,bH.1.iy,bH.1.cells,eb];have e5:=o.size;have eU:=r.sz;have al:=iT (N 2 g.lt);have eh:∀b,b<P->¬Fp h 2 b->(dZ a6 2 _).get b=h.get b:=λb B bi=>(K.get b J (by rw[al];exact bi)).trans (N b J);have eV:=g.lt;refine⟨⟨_,bC,E++[(m,.arr j V 0 O false)],X++[⟨m,dd⟩],by simpa using c9,?_,dz,λL bs=>?_⟩,(S.kT (N 2 g.lt) (N 0 S.lt)).step K,(R.kT (N 2 g.lt) (N 1 R.lt)).step K⟩
   ·rw[List.map_append,List.map_append];have e8:x.size<=(dZ a6 2 (⟨7,0,ver+1,true,false,[.agg [sl (W.cells.map iq.t),sl (W.ei.map iI.t),sl (W.gF.map ja.t),sl (W.ee.map T.str),sl (W.dH.map T.str),sl (W.iJ.map iK.t),bC]]⟩:iY)).size:=K.ok.sz;refine iM.append (U.ft λb B=>⟨⟨B.1,J,λq=>?_⟩,eh b B.2.1 B.2.2⟩) (.cons (acl ⟨J,J,λq=>?_⟩ ?_) .nil)
    ·rcases K.fp b q with q|q
     ·rw[al]at q;exact B.2.2 q
     ·omega
    ·rcases K.fp j q with q|q
     ·rw[al]at q;have:=g.fp j q;omega
     ·omega
    ·have dv:(dZ a6 2 (⟨7,0,ver+1,true,false,[.agg [sl (W.cells.map iq.t),sl (W.ei.map iI.t),sl (W.gF.map ja.t),sl (W.ee.map T.str),sl (W.dH.map T.str),sl (W.iJ.map iK.t),bC]]⟩:iY)).get j=_:=((K.get j J λq=>by rw[al]at q;have:=g.fp j q;omega).trans (o.get j b8)).trans aE;have et:O<=eI.length:=by
      have:=bE List.length cb;rw[List.length_take,aH]at this;omega
     rw[ig,dv];simp[et,cb]
   ·rcases List.mem_append.1 bs with q|q
    ·exact a8 L q
    ·rw[List.mem_singleton.1 q];simp only;omega
  ·exact⟨t.locals.length,1,Sn.new c4 _,dy,by simp[s,y,u,v]⟩
 ·rintro a h ⟨⟨ver,av,E,X,g,U,hE,a8⟩,S,R,s,y,u,⟨ap,z⟩,v⟩;have Q:=g.get;simp at Q;have an:=R.get;unfold I7 at an;have eE:=g.qx R ⟨7,0,1,true,false,[.agg [sl (W.cells.map iq.t),sl (W.ei.map iI.t),sl (W.gF.map ja.t),sl (W.ee.map T.str),sl (W.dH.map T.str),sl (W.iJ.map iK.t),av]]⟩;have dm:(dZ h 1 ⟨7,0,1,true,false,[.agg [sl (W.cells.map iq.t),sl (W.ei.map iI.t),sl (W.gF.map ja.t),sl (W.ee.map T.str),sl (W.dH.map T.str),sl (W.iJ.map iK.t),av]]⟩).get 1=_:=(dN an _ 1).trans (ar rfl);have dk:=(eE.gr 6 rfl).KF (d:=4) J (U.ft (V':=λ_=>True) λj eP=>⟨trivial,by rw[dN an,aq J]⟩);simp[s,y,u,v,S.get,Q,an,dX,dm,dk];exact⟨⟨⟨W,X⟩,rfl,a8⟩,g.ok.hp⟩
 ·have⟨eD,bS⟩:=ny.start (h:=((hE.cons ⟨2,0,0,true,false,[c.t]⟩).cons I7).cons ⟨7,0,1,true,false,[.agg [sl (W.cells.map iq.t),sl (W.ei.map iI.t),sl (W.gF.map ja.t),sl (W.ee.map T.str),sl (W.dH.map T.str),sl (W.iJ.map iK.t),.dK [] false]]⟩) (w:=2) (szw:=7) (ver:=1) (F:=[(sl (W.cells.map iq.t),none),(sl (W.ei.map iI.t),none),(sl (W.gF.map ja.t),none),(sl (W.ee.map T.str),none),(sl (W.dH.map T.str),none),(sl (W.iJ.map iK.t),none),(.dK [] false,some (2,[]))]) ⟨dy,dy,dy⟩ (by simp[I7]) dy;exact⟨⟨_,_,[],[],eD,.nil,rfl,dy⟩,⟨dy,λq=>absurd (bS 0 q) dB⟩,⟨by simp[I7],λq=>absurd (bS 1 q) dB⟩,dy⟩
