/- W06w -/
import Derived.Test.YtbappgeamhmmbaaGreatDoorA22
import Derived.Test.YtbappgeamhmmbaaGreatDoorA25
set_option linter.all false
set_option maxRecDepth 100000
set_option maxHeartbeats 0
namespace Go.Proofs.YtbappgeamhmmbaaGreatDoor
noncomputable section
open Go Go.TI Tryz
attribute [-simp] List.map_take List.map_drop List.map_append fj ez TI.d8 Bool.not_or Bool.not_and
attribute [simp] fh eG
structure ISi where
 (O:List ik) (v:T) (t n:Int) (l:List dH)
def Z7(a:ISi)(c:List T)(b:H):Prop:=c=[a.v,D a.t,D a.n,sl (a.l.map dH.t)]/\Gr b a.v 3 (a.O.map ik.t)/\gH 0 b/\a.O.length+dH.ws a.l<=10000000
def U9(a:ISi)(h:List T)(d:H)(g:T)(e:H):Prop:=∃c f,∃b:List ik,g= .tuple [c,D f]/\b.length<=a.O.length+dH.ws a.l/\Xt d a.v 3 (b.map ik.t) c e
abbrev ZU(d:Nat):kI:=jr ISi (λa b c=>Z7 a b c/\dH.ws a.l<d) U9
def H5(y:Nat)(E:(ZU y).Ok prog cx 158):(ZU (y+1)).Ok prog cx 158:=by
 refine jn (tb:=⟨pt [],ht [(158,ZU y)]⟩) iB gW (iP 18191 [] func158) (λ_ _=>10000005) (λe X m N=>by obtain⟨⟨rfl,_⟩,_⟩:=N;simp[f158]) ?_;rintro⟨u,s,n,O,l⟩ _ m ⟨⟨rfl,z,Q,M⟩,L⟩ g A;simp only at z M L;simp at A;obtain⟨a,b,c,d⟩:=A;have hl:=dH.uf (l:=l);have V:Xt (hr m) s 3 (u.map ik.t) s (hr m):=Xt.refl (z.mono λH _=>gu m H) Q.hr;simp[f158,a,b,c,d];refine fc l.length B (λe g v=>∃o j,∃h:List ik,dy g 0 o/\dy g 1 (D n)/\dy g 2 (D j)/\dy g 3 (sl (l.map dH.t))/\dy g 10 (D e)/\h.length<=u.length+dH.ws (l.take e)/\Xt (hr m) s 3 (h.map ik.t) o v) ?_ ?_ B ⟨s,O,u,by simp[a,b,c,d,V]⟩
 ·rintro e g v x K ⟨o,j,h,a,b,c,d,i,w,k⟩;have av:=dH.Es l x;have ap:=dH.w7 l (e+1);have⟨T,Y,I,p⟩:=k.1.mQ (cx:=cx) (f:=ik.t) ⟨k.2.2.2.hp,k.2.2.2.low,aw _⟩ Wo rfl Rx rfl J J (⟨n,j,l[e].ud⟩:ik) dp;simp[a,b,c,d,i,x];have C:l[e]? =some l[e]:=ay x;generalize l[e]=r at*
  have an:=r.kQ;simp[a,b,c,d,i,I,nG,C,p.1.qA,A0];refine iD E J ⟨h++[⟨n,j,r.ud⟩],T,n,_,r.body⟩ ⟨⟨rfl,p.1,⟨p.2.2.2.hp,p.2.2.2.low,aw _⟩,dp⟩,dq⟩ ?_;rintro _ ae ⟨U,P,F,rfl,R,q⟩;simp only[bh,List.length_singleton]at R;simp[a,b,c,d,i,C,q.1.qA,A0];refine iD E J ⟨F,U,n,P,r.LV⟩ ⟨⟨rfl,q.1,⟨q.2.2.2.hp,q.2.2.2.low,aw _⟩,dq⟩,dq⟩ ?_;rintro _ al ⟨aE,aA,G,rfl,S,W⟩;simp only at S;simp[a,b,c,d,i,K];exact⟨G,B,((k.trans p).trans q).trans W⟩
 ·rintro g v ⟨o,j,h,a,b,c,d,i,w,k⟩;rw[aJ]at w;simp[a,b,c,d,i];exact⟨o,j,h,rfl,w,k.out⟩
def Lo:(ZU 10000001).Ok prog cx 158:=yY (λa:ISi=>dH.ws a.l) H5 10000001
def e04(c:fx):Int:=Classical.epsilon λa=>∃b,jK.ji.R c= .tuple [D a,D b]
def l04(a:fx):Int:=Classical.epsilon λb=>jK.ji.R a= .tuple [D (e04 a),D b]
def c04{c:fw}(ht:c.p 104=some jK.ji)(p:fx)(b:Iq p):rl prog cx c 104 [p.t]=some (.tuple [D (e04 p),D (l04 p)]):=by
 have e:∃a,jK.ji.R p= .tuple [D (e04 p),D a]:=Classical.epsilon_spec (p:=λd=>∃a,jK.ji.R p= .tuple [D d,D a]) (jK.2 p b);exact(gG ht jK.1 p b).trans (bG some (Classical.epsilon_spec e))
def N5(b:fx):Prop:=Iq b/\b.jc.length<=100/\(∀a∈b.jc,a.size<=4)/\∃a∈b.jc,a.kind=1/\a.name=[113]
def YN(m:H)(a n f:Nat)(e:List fW):Prop:=∃o g h i j k l,∃(Lk:List ig) (b:List iA) (c Th:List (List Nat)) (d:List ik),m9 m 2 6 o [(g,some (5,e.map fW.t)),(h,some (2,Lk.map ig.t)),(i,some (2,b.map iA.t)),(j,some (1,c.map T.str)),(k,some (1,Th.map T.str)),(l,some (3,d.map ik.t))]/\
 Lk.length<=a/\b.length<=a/\c.length<=a/\Th.length<=n/\d.length<=f
def YN.le{e:H}{b c f d:Nat}{a:List fW}(r:YN e b f d a)(x:b<=c):YN e c f d a:=by
 obtain⟨t,j,k,l,m,n,o,Lk,g,h,Th,i,s,u,v,w,p,q⟩:=r;exact⟨t,j,k,l,m,n,o,Lk,g,h,Th,i,s,B,B,B,p,q⟩
def Ix(b:List Nat)(a:List fW):Prop:=b∈a.map fW.name
def FF:iI:=(Z 6 0 [.agg [dw,dw,dw,dw,dw,dw]])
def BX:mW prog cx 105 (λd:fx=>[d.t]) N5 (λd r=>∃W:dR,r=W.t/\(e04 d=0->okW W)):=by
 refine xN (tb:=⟨pt [(104,jK.ji),(157,rJ)],ht [(158,ZU 10000001)]⟩) iB gW (iP 316913254556860716756833993695 [(21,[(1,8),(3,8)])] func105) (λd=>1000005) (λa b h=>by simp at h;exact fx.inj h) J nl9 ?_;rintro d ⟨bH,eN,bB,eo⟩ j ce;simp at ce;have de:=λ{tb:fw} (ht:tb.p 104=some jK.ji)=>c04 ht d bH;have hl:=bH.1.1;simp[f105,ce,de];refine dV (λb6=>?_) (λb6=>?_)
 ·simp at b6;simp[b6];exact⟨⟨[],[],[],[],[],[]⟩,rfl⟩
 simp;refine fc d.jc.length B (λi j h=>∃z,YN h i 0 0 z/\Lb 2 h 0 (Z 2 0 [d.t])/\Lb 2 h 1 FF/\z.length<=4*i/\(∀c∈d.jc.take i,c.kind=1->Ix c.name z)/\dy j 1 (.ptr 0 0 0 0)/\dy j 2 (.ptr 1 0 0 0)/\dy j 3 (.ptr 2 0 0 0)/\dy j 6 (D i)) ?_ ?_ B ?_
 ·rintro i j h aN aA ⟨z,⟨ver,G,Q,H,I,K,A,Lk,S,U,Th,P,e,a7,a8,bi,ae,al⟩,v,y,dn,aX,s,m,u,L⟩;have X:=e.get;simp at X;have eP:(0=h.size)=False:=by have:=e.lt;simp;omega
  have eR:(2=h.size)=False:=by have:=e.lt;simp;omega
  have bu:∀c∈d.jc.take (i+1),c∈d.jc.take i\/c=d.jc[i]:=λc bB=>by
   rw[aT aN]at bB;exact(List.mem_append.1 bB).imp id λq=>List.mem_singleton.1 q
  have eU:=bB d.jc[i] (aD aN);simp[s,m,u,L,aN,v.get,e.ok.low];generalize d.jc[i]=c at*
  have C:=e.cons (Z 6 1 [c.t]);have c9:=Step.cons e.ok e.lt (Z 6 1 [c.t]);have l7:=Lb.new e.lt e.fp (Z 6 1 [c.t]);replace v:=v.step c9;replace y:=y.step c9;have bn:(h.cons (Z 6 1 [c.t])).get 2=h.get 2:=by rw[dO,ao (by have:=e.lt;omega)]
  rw[X]at bn;generalize eS:h.size=b9 at*
  generalize h.cons (Z 6 1 [c.t])=eE at*
  by_cases eu:c.kind=1\/c.kind=2
  ·have bz:∃N:Nat,max c.size 1=N/\1<=N/\N<=4:=⟨(max c.size 1).toNat,B,B,B⟩;obtain⟨N,bz,dv,eM⟩:=bz;rcases eu with hk|hk<;>(
    simp[hk,s,m,u,L,l7.get];refine fc N B (λk j h=>∃av,YN h i 0 0 av/\Lb 2 h 0 (Z 2 0 [d.t])/\Lb 2 h 1 FF/\Lb 2 h b9 (Z 6 1 [c.t])/\av.length<=4*i+k/\(∀n,Ix n z->Ix n av)/\(1<=k->Ix c.name av)/\dy j 1 (.ptr 0 0 0 0)/\dy j 2 (.ptr 1 0 0 0)/\dy j 3 (.ptr 2 0 0 0)/\dy j 6 (D i)/\dy j 7 (.ptr b9 0 0 0)/\dy j 8 (D k)) ?_ ?_ B ⟨z,⟨ver,G,Q,H,I,K,A,Lk,S,U,Th,P,C,a7,a8,bi,ae,al⟩,v,y,l7,B,λ_ h=>h,λh=>by omega,by simp[s,m,u,L]⟩
    ·rintro k j h ef eb ⟨av,⟨ver,G,Q,H,I,K,A,Lk,S,U,Th,P,e,a7,a8,bi,ae,al⟩,v,y,l7,ds,aE,bC,s,m,u,L,bS,bT⟩;have X:=e.get;simp at X;have eO:(k:Int)<max c.size 1:=B;have⟨an,bk,R,l⟩:=(e.gr 0 rfl).mQ (cx:=cx) (f:=fW.t) e.ok Wq rfl RC rfl J J (⟨c.name,k,c.size,decide (c.kind=2),c.jA⟩:fW) dp;have⟨x,M,O⟩:=e.app 0 rfl l;have⟨g,o⟩:=O _ rfl;simp at x g o;simp[hk]at R;simp[hk,s,m,u,L,bS,bT,l7.get,X,ef,bz,R,x,M,dN,l.1.fg,l.1.cells,eb];exact⟨_,⟨ver+1,an,Q,H,I,K,A,Lk,S,U,Th,P,o,a7,a8,bi,ae,al⟩,v.step g,y.step g,l7.step g,dp,λn b7=>by have:=aE n b7;unfold Ix at*;rw[List.map_append];exact cS _ this,by unfold Ix;simp⟩
    ·rintro j h ⟨av,eD,v,y,l7,ds,aE,bC,s,m,u,L,bS,bT⟩;simp[hk,s,m,u,L,bS,bT,l7.get,bz,aA];exact⟨av,eD.le B,v,y,B,λE ap eh=>by
      rcases bu E ap with q|rfl
      ·exact aE _ (aX E q eh)
      ·exact bC dv⟩)
  have ey:¬c.kind=1/\¬c.kind=2:=B;by_cases cL:c.kind=3
  ·have⟨an,bk,R,l⟩:=(C.gr 1 rfl).mQ (cx:=cx) (f:=ig.t) C.ok OW rfl Kh rfl J J (⟨c.name,false⟩:ig) dp;have⟨x,M,O⟩:=C.app 1 rfl l;have⟨g,o⟩:=O _ rfl;simp at x g o;simp[cL,s,m,u,L,l7.get,bn,aA,R,x,M,dN,l.1.fg,l.1.cells];exact⟨z,⟨ver+1,G,an,H,I,K,A,_,S,U,Th,P,o,dp,B,B,ae,al⟩,v.step g,y.step g,B,λE ap hk=>aX E ((bu E ap).resolve_right λV=>by subst V;omega) hk⟩
  by_cases c1:c.kind=4
  ·have⟨an,bk,R,l⟩:=(C.gr 1 rfl).mQ (cx:=cx) (f:=ig.t) C.ok OW rfl Kh rfl J J (⟨c.name,true⟩:ig) dp;have⟨x,M,O⟩:=C.app 1 rfl l;have⟨g,o⟩:=O _ rfl;simp at x g o;simp[c1,s,m,u,L,l7.get,bn,aA,R,x,M,dN,l.1.fg,l.1.cells];exact⟨z,⟨ver+1,G,an,H,I,K,A,_,S,U,Th,P,o,dp,B,B,ae,al⟩,v.step g,y.step g,B,λE ap hk=>aX E ((bu E ap).resolve_right λV=>by subst V;omega) hk⟩
  by_cases c4:c.kind=5
  ·have dk:=(C.gr 1 rfl).qA J;have di:=λ{tb:fw} (h:tb.p 157=some rJ)=>Kv h Lk c.on B;have⟨an,bk,R,l⟩:=(C.gr 2 rfl).mQ (cx:=cx) (f:=iA.t) C.ok Wp rfl Ry rfl J J (⟨c.name,rm (Lk.map ig.name) c.on 0⟩:iA) dp;have⟨x,M,O⟩:=C.app 2 rfl l;have⟨g,o⟩:=O _ rfl;simp at x g o;simp[c4,s,m,u,L,l7.get,bn,aA,R,x,M,dN,l.1.fg,l.1.cells,dk,di];exact⟨z,⟨ver+1,G,Q,an,I,K,A,Lk,_,U,Th,P,o,B,dp,B,ae,al⟩,v.step g,y.step g,B,λE ap hk=>aX E ((bu E ap).resolve_right λV=>by subst V;omega) hk⟩
  ·have⟨an,bk,R,l⟩:=(C.gr 3 rfl).mQ (cx:=cx) (f:=T.str) C.ok pT rfl vn rfl J J (c.name) dp;have⟨x,M,O⟩:=C.app 3 rfl l;have⟨g,o⟩:=O _ rfl;simp at x g o;simp[ey,cL,c1,c4,s,m,u,L,l7.get,bn,aA,R,x,M,dN,l.1.fg,l.1.cells];exact⟨z,⟨ver+1,G,Q,H,an,K,A,Lk,S,_,Th,P,o,B,B,dp,ae,al⟩,v.step g,y.step g,B,λE ap hk=>aX E ((bu E ap).resolve_right λV=>by subst V;omega) hk⟩
 ·rintro j h ⟨z,⟨ver,G,Q,H,I,K,A,Lk,S,U,Th,P,e,a7,a8,bi,ae,al⟩,v,y,dn,aX,s,m,u,L⟩;have eV:=bH.1.2.1;have et:∀{i:Nat} (cp:i<d.dC.length),ph (d.dC.take (i+1))=ph (d.dC.take i)+dH.ws d.dC[i].body:=λ{i} cp=>by
   unfold ph;rw[aT cp,List.map_append,List.sum_append];simp
  have er:∀i,ph (d.dC.take i)<=1000000:=λi=>by
   have:ph d.dC<=1000000:=bH.2.1;have m:ph d.dC=ph (d.dC.take i)+ph (d.dC.drop i):=by unfold ph;rw[<-List.sum_append,<-List.map_append,cF]
   omega
  simp[s,m,u,L,v.get];refine fc d.dC.length B (λi j h=>YN h 1000000 i (ph (d.dC.take i)) z/\Lb 2 h 0 (Z 2 0 [d.t])/\Lb 2 h 1 FF/\dy j 1 (.ptr 0 0 0 0)/\dy j 2 (.ptr 1 0 0 0)/\dy j 3 (.ptr 2 0 0 0)/\dy j 9 (D i)) ?_ ?_ B ⟨⟨ver,G,Q,H,I,K,A,Lk,S,U,Th,P,e,B,B,B,ae,by simpa[ph]using al⟩,v,y,by simp[s,m,u]⟩
  ·rintro i j h aN aA ⟨⟨ver,G,Q,H,I,K,A,Lk,S,U,Th,P,e,a7,a8,bi,ae,al⟩,v,y,s,m,u,bs⟩;have eF:=et aN;have eH:=er (i+1);have X:=e.get;simp at X;have⟨an,bk,R,l⟩:=(e.gr 4 rfl).mQ (cx:=cx) (f:=T.str) e.ok pT rfl vn rfl J J (d.dC[i].name) dp;have⟨x,M,O⟩:=e.app 4 rfl l;have⟨g,o⟩:=O _ rfl;simp at x g o;simp[s,m,u,bs,aN,v.get,X,R,x,M,dN,l.1.fg,l.1.cells];have c6:=v.step g;have eA:=y.step g;have cb:=o.get;simp at cb;generalize dT bk 2 _=eI at*
   simp[s,m,u,bs,aN,c6.get,cb,(o.gr 5 rfl).qA,A0];refine iD Lo J ⟨P,A,i,0,d.dC[i].body⟩ ⟨⟨rfl,o.gr 5 rfl,o.ok,dq⟩,dq⟩ ?_;rintro _ eL ⟨eC,eW,dd,rfl,ea,bN⟩;simp only at ea bN;have⟨x,M,O⟩:=o.app 5 rfl bN;have⟨FO,c7⟩:=O _ rfl;simp at x FO c7;simp[s,m,u,bs,x,M,dN,bN.1.fg,bN.1.cells,aA];exact⟨⟨ver+1+1,G,Q,H,I,an,eC,Lk,S,U,_,dd,c7,a7,a8,bi,dp,B⟩,c6.step FO,eA.step FO⟩
  ·rintro j h ⟨⟨ver,G,Q,H,I,K,A,Lk,S,U,Th,P,e,a7,a8,bi,ae,al⟩,v,y,s,m,u,bs⟩;have X:=e.get;simp at X;have bl:=e.ry y (Z 6 1 [.agg [G,Q,H,I,K,A]]);have b8:=y.get;unfold FF at b8;have dm:(dT h 1 (Z 6 1 [.agg [G,Q,H,I,K,A]])).get 1=_:=(dF b8 _ 1).trans (aq rfl);simp[s,m,u,bs,v.get,X,b8,dN,dm,(bl.gr 0 rfl).fz J,(bl.gr 1 rfl).fz J,(bl.gr 2 rfl).fz J,(bl.gr 3 rfl).fz J,(bl.gr 4 rfl).fz J,(bl.gr 5 rfl).fz J];refine⟨⟨_,rfl,λ_=>⟨dq,dq,dq,dq,dq,?_⟩⟩,e.ok.hp⟩;obtain⟨c,ec,hk,bC⟩:=eo;have aE:=aX c (by rw[aJ];exact ec) hk;unfold Ix at aE;rw[bC]at aE;rcases Fs (z.map fW.name) [113] 0 with V|⟨n,b7,V⟩
   ·have:=Ft (z.map fW.name) [113] 0;rw[V,eq_true aE]at this;simp at this
   ·exact⟨n,by simpa using b7,by rw[V];simp⟩
 ·have⟨eB,ca⟩:=m9.start (h:=((hE.cons (Z 2 0 [d.t])).cons FF).cons FF) (w:=2) (szw:=6) (ver:=0) (F:=[(dw,some (5,[])),(dw,some (2,[])),(dw,some (2,[])),(dw,some (1,[])),(dw,some (1,[])),(dw,some (3,[]))]) ⟨J,J,J⟩ (by simp[FF]) J;exact⟨[],⟨0,_,_,_,_,_,_,[],[],[],[],[],eB,J,J,J,J,J⟩,⟨J,λq=>absurd (ca 0 q) dt⟩,⟨by simp[FF],λq=>absurd (ca 1 q) dt⟩,J⟩
