/- W06w -/
import Derived.Test.YtmoiekepclmgbaaGreatDoorA20
import Derived.Test.YtmoiekepclmgbaaGreatDoorA23
set_option linter.all false
set_option maxRecDepth 100000
set_option maxHeartbeats 0
namespace Go.Proofs.YtmoiekepclmgbaaGreatDoor
noncomputable section
open Go Go.TI Tryz
attribute [-simp] List.map_take List.map_drop List.map_append fU fK fh Bool.not_or Bool.not_and
attribute [simp] fT fM
structure ISi where
 (O:List jc) (v:T) (t n:Int) (l:List ei)
def adC(a:ISi)(c:List T)(b:H):Prop:=c=[a.v,G a.t,G a.n,sl (a.l.map ei.t)]/\Gr b a.v 3 (a.O.map jc.t)/\iE 0 b/\a.O.length+ei.ws a.l<=10000000
def ZB(a:ISi)(h:List T)(d:H)(g:T)(e:H):Prop:=∃c f,∃b:List jc,g= .tuple [c,G f]/\b.length<=a.O.length+ei.ws a.l/\Xt d a.v 3 (b.map jc.t) c e
abbrev rSi(d:Nat):mr:=jY ISi (λa b c=>adC a b c/\ei.ws a.l<d) ZB
def LH(y:Nat)(C:(rSi y).Ok prog cx 157):(rSi (y+1)).Ok prog cx 157:=by
 refine jV (tb:=⟨pt [],ht [(157,rSi y)]⟩) jg iT (jr 18191 [] func157) (λ_ _=>10000005) (λa W k M=>by obtain⟨⟨rfl,_⟩,_⟩:=M;simp[f157]) ?_;rintro⟨u,s,n,N,l⟩ _ k ⟨⟨rfl,z,P,L⟩,K⟩ c A;simp only at z L K;simp at A;obtain⟨m,d,h,b⟩:=A;have hl:=ei.wW (l:=l);have U:Xt (hr k) s 3 (u.map jc.t) s (hr k):=Xt.refl (z.mono λH _=>iI k H) P.hr;simp[f157];refine gu l.length D (λa c v=>∃o i,∃e:List jc,dT c 0 o/\dT c 1 (G n)/\dT c 2 (G i)/\dT c 3 (sl (l.map ei.t))/\dT c 10 (G a)/\e.length<=u.length+ei.ws (l.take a)/\Xt (hr k) s 3 (e.map jc.t) o v) ?_ ?_ D ⟨s,N,u,by simp[m,d,h,b,U]⟩
 ·rintro a c v x J ⟨o,i,e,m,d,h,b,g,w,j⟩;have ap:=ei.HL l x;have an:=ei.zL l (a+1);have⟨S,X,I,p⟩:=j.1.my (cx:=cx) (f:=jc.t) ⟨j.2.2.2.hp,j.2.2.2.low,aw _⟩ aaH rfl WI rfl Y Y (⟨n,i,l[a].wU⟩:jc) dN;simp[m,d,h,b,g,x];have B:l[a]? =some l[a]:=az x;generalize l[a]=r at*
  have al:=r.mR;simp[d,h,b,g,I,pP,B,p.1.qC,Dx];refine jm C Y ⟨e++[⟨n,i,r.wU⟩],S,n,_,r.body⟩ ⟨⟨rfl,p.1,⟨p.2.2.2.hp,p.2.2.2.low,aw _⟩,dN⟩,dO⟩ ?_;rintro _ Z ⟨T,O,E,rfl,Q,q⟩;simp only[aT,List.length_singleton]at Q;simp[d,b,g,B,q.1.qC,Dx];refine jm C Y ⟨E,T,n,O,r.Qu⟩ ⟨⟨rfl,q.1,⟨q.2.2.2.hp,q.2.2.2.low,aw _⟩,dO⟩,dO⟩ ?_;rintro _ ae ⟨aA,av,F,rfl,R,V⟩;simp only at R;simp[d,b,g,J];exact⟨F,D,((j.trans p).trans q).trans V⟩
 ·rintro c v ⟨o,i,e,m,d,h,b,g,w,j⟩;rw[aI]at w;simp[m,h,b,g];exact⟨o,i,e,rfl,w,j.out⟩
def PP:(rSi 10000001).Ok prog cx 157:=yW (λa:ISi=>ei.ws a.l) LH 10000001
def e04(c:ik):Int:=Classical.epsilon λa=>∃b,kG.jX.R c= .tuple [G a,G b]
def l04(a:ik):Int:=Classical.epsilon λb=>kG.jX.R a= .tuple [G (e04 a),G b]
def c04{c:gG}(ht:c.p 109=some kG.jX)(p:ik)(b:JI p):rl prog cx c 109 [p.t]=some (.tuple [G (e04 p),G (l04 p)]):=by
 have e:∃a,kG.jX.R p= .tuple [G (e04 p),G a]:=Classical.epsilon_spec (p:=λd=>∃a,kG.jX.R p= .tuple [G d,G a]) (kG.2 p b);exact(iA ht kG.1 p b).trans (bO some (Classical.epsilon_spec e))
def PW(b:ik):Prop:=JI b/\b.jU.length<=100/\(∀a∈b.jU,a.size<=4)/\∃a∈b.jU,a.kind=1/\a.name=[113]
def WoS(m:H)(a n f:Nat)(e:List iK):Prop:=∃o g h i j k l,∃(Lk:List ja) (b:List jq) (c Th:List (List Nat)) (d:List jc),nS m 2 6 o [(g,some (5,e.map iK.t)),(h,some (2,Lk.map ja.t)),(i,some (2,b.map jq.t)),(j,some (1,c.map T.str)),(k,some (1,Th.map T.str)),(l,some (3,d.map jc.t))]/\
 Lk.length<=a/\b.length<=a/\c.length<=a/\Th.length<=n/\d.length<=f
def WoS.le{e:H}{b c f d:Nat}{a:List iK}(r:WoS e b f d a)(x:b<=c):WoS e c f d a:=by
 obtain⟨t,j,k,l,m,n,o,Lk,g,h,Th,i,s,u,v,w,p,q⟩:=r;exact⟨t,j,k,l,m,n,o,Lk,g,h,Th,i,s,D,D,D,p,q⟩
def Mj(b:List Nat)(a:List iK):Prop:=b∈a.map iK.name
def I8:jv:=(dS 6 0 [.agg [dR,dR,dR,dR,dR,dR]])
def EF:o9 prog cx 110 (λd:ik=>[d.t]) PW (λd r=>∃W:fc,r=W.t/\(e04 d=0->okW W)):=by
 refine AA (tb:=⟨pt [(109,kG.jX),(156,uP)],ht [(157,rSi 10000001)]⟩) jg iT (jr 316913254556860716756833993695 [(21,[(1,8),(3,8)])] func110) (λd=>1000005) (λa b h=>by simp at h;exact ik.inj h) Y nl9 ?_;rintro d ⟨bC,eH,bA,eb⟩ j b9;simp at b9;have c6:=λ{tb:gG} (ht:tb.p 109=some kG.jX)=>c04 ht d bC;have hl:=bC.1.1;simp[f110,b9,c6];refine fw (λbT=>?_) (λbT=>?_)
 ·simp at bT;simp[bT];exact⟨⟨[],[],[],[],[],[]⟩,rfl⟩
 simp;refine gu d.jU.length D (λi j h=>∃z,WoS h i 0 0 z/\Lb 2 h 0 (dS 2 0 [d.t])/\Lb 2 h 1 I8/\z.length<=4*i/\(∀c∈d.jU.take i,c.kind=1->Mj c.name z)/\dT j 1 (.ptr 0 0 0 0)/\dT j 2 (.ptr 1 0 0 0)/\dT j 3 (.ptr 2 0 0 0)/\dT j 6 (G i)) ?_ ?_ D ?_
 ·rintro i j h aA ap ⟨z,⟨ver,E,M,H,I,J,A,Lk,Q,R,Th,L,e,aN,aX,a6,V,X⟩,o,v,de,aE,u,x,y,P⟩;have U:=e.get;simp at U;have eK:(0=h.size)=False:=by have:=e.lt;simp;omega
  have eL:(2=h.size)=False:=by have:=e.lt;simp;omega
  have bs:∀c∈d.jU.take (i+1),c∈d.jU.take i\/c=d.jU[i]:=λc bA=>by
   rw[aM aA]at bA;exact(List.mem_append.1 bA).imp id λq=>List.mem_singleton.1 q
  have eN:=bA d.jU[i] (aC aA);simp[u,P,aA,o.get,e.ok.low];generalize d.jU[i]=c at*
  have B:=e.cons (dS 6 1 [c.t]);have c1:=Step.cons e.ok e.lt (dS 6 1 [c.t]);have ae:=Lb.new e.lt e.fp (dS 6 1 [c.t]);replace o:=o.step c1;replace v:=v.step c1;have bn:(h.cons (dS 6 1 [c.t])).get 2=h.get 2:=by rw[ez,ao (by have:=e.lt;omega)]
  rw[U]at bn;generalize eM:h.size=b6 at*
  generalize h.cons (dS 6 1 [c.t])=eA at*
  by_cases eh:c.kind=1\/c.kind=2
  ·have bu:∃N:Nat,max c.size 1=N/\1<=N/\N<=4:=⟨(max c.size 1).toNat,D,D,D⟩;obtain⟨N,bu,dk,eF⟩:=bu;rcases eh with hk|hk<;>(
    simp[hk];refine gu N D (λk j h=>∃an,WoS h i 0 0 an/\Lb 2 h 0 (dS 2 0 [d.t])/\Lb 2 h 1 I8/\Lb 2 h b6 (dS 6 1 [c.t])/\an.length<=4*i+k/\(∀n,Mj n z->Mj n an)/\(1<=k->Mj c.name an)/\dT j 1 (.ptr 0 0 0 0)/\dT j 2 (.ptr 1 0 0 0)/\dT j 3 (.ptr 2 0 0 0)/\dT j 6 (G i)/\dT j 7 (.ptr b6 0 0 0)/\dT j 8 (G k)) ?_ ?_ D ⟨z,⟨ver,E,M,H,I,J,A,Lk,Q,R,Th,L,B,aN,aX,a6,V,X⟩,o,v,ae,D,λ_ h=>h,λh=>by omega,by simp[u,x,y,P]⟩
    ·rintro k j h dv dn ⟨an,⟨ver,E,M,H,I,J,A,Lk,Q,R,Th,L,e,aN,aX,a6,V,X⟩,o,v,ae,di,av,bB,u,x,y,P,bN,bS⟩;have U:=e.get;simp at U;have eI:(k:Int)<max c.size 1:=D;have⟨Z,a7,O,l⟩:=(e.gr 0 rfl).my (cx:=cx) (f:=iK.t) e.ok aaJ rfl WJ rfl Y Y (⟨c.name,k,c.size,decide (c.kind=2),c.jG⟩:iK) dN;have⟨s,a8,K⟩:=e.app 0 rfl l;have⟨g,m⟩:=K _ rfl;simp at s g m;simp[hk]at O;simp[hk,u,x,y,P,bN,bS,ae.get,U,dv,bu,O,s,eZ,l.1.iN,l.1.cells,dn];exact⟨_,⟨ver+1,Z,M,H,I,J,A,Lk,Q,R,Th,L,m,aN,aX,a6,V,X⟩,o.step g,v.step g,ae.step g,dN,λn bW=>by have:=av n bW;unfold Mj at*;rw[List.map_append];exact dt _ this,by unfold Mj;simp⟩
    ·rintro j h ⟨an,ey,o,v,ae,di,av,bB,u,x,y,P,bN,bS⟩;simp[hk,u,x,y,P,bN,bS,ae.get,bu,ap];exact⟨an,ey.le D,o,v,D,λC al ea=>by
      rcases bs C al with q|rfl
      ·exact av _ (aE C q ea)
      ·exact bB dk⟩)
  have eo:¬c.kind=1/\¬c.kind=2:=D;by_cases cb:c.kind=3
  ·have⟨Z,a7,O,l⟩:=(B.gr 1 rfl).my (cx:=cx) (f:=ja.t) B.ok TW rfl Oj rfl Y Y (⟨c.name,false⟩:ja) dN;have⟨s,a8,K⟩:=B.app 1 rfl l;have⟨g,m⟩:=K _ rfl;simp at s g m;simp[cb,u,x,y,P,ae.get,bn,ap,O,s,eZ,l.1.iN,l.1.cells];exact⟨z,⟨ver+1,E,Z,H,I,J,A,_,Q,R,Th,L,m,dN,D,D,V,X⟩,o.step g,v.step g,D,λC al hk=>aE C ((bs C al).resolve_right λS=>by subst S;omega) hk⟩
  by_cases cp:c.kind=4
  ·have⟨Z,a7,O,l⟩:=(B.gr 1 rfl).my (cx:=cx) (f:=ja.t) B.ok TW rfl Oj rfl Y Y (⟨c.name,true⟩:ja) dN;have⟨s,a8,K⟩:=B.app 1 rfl l;have⟨g,m⟩:=K _ rfl;simp at s g m;simp[cp,u,x,y,P,ae.get,bn,ap,O,s,eZ,l.1.iN,l.1.cells];exact⟨z,⟨ver+1,E,Z,H,I,J,A,_,Q,R,Th,L,m,dN,D,D,V,X⟩,o.step g,v.step g,D,λC al hk=>aE C ((bs C al).resolve_right λS=>by subst S;omega) hk⟩
  by_cases cF:c.kind=5
  ·have c9:=(B.gr 1 rfl).qC Y;have c7:=λ{tb:gG} (h:tb.p 156=some uP)=>OH h Lk c.on D;have⟨Z,a7,O,l⟩:=(B.gr 2 rfl).my (cx:=cx) (f:=jq.t) B.ok aaI rfl WL rfl Y Y (⟨c.name,uC (Lk.map ja.name) c.on 0⟩:jq) dN;have⟨s,a8,K⟩:=B.app 2 rfl l;have⟨g,m⟩:=K _ rfl;simp at s g m;simp[cF,u,x,y,P,ae.get,bn,ap,O,s,eZ,l.1.iN,l.1.cells,c9,c7];exact⟨z,⟨ver+1,E,M,Z,I,J,A,Lk,_,R,Th,L,m,D,dN,D,V,X⟩,o.step g,v.step g,D,λC al hk=>aE C ((bs C al).resolve_right λS=>by subst S;omega) hk⟩
  ·have⟨Z,a7,O,l⟩:=(B.gr 3 rfl).my (cx:=cx) (f:=T.str) B.ok sO rfl yq rfl Y Y (c.name) dN;have⟨s,a8,K⟩:=B.app 3 rfl l;have⟨g,m⟩:=K _ rfl;simp at s g m;simp[eo,cb,cp,cF,u,x,y,P,ae.get,bn,ap,O,s,eZ,l.1.iN,l.1.cells];exact⟨z,⟨ver+1,E,M,H,Z,J,A,Lk,Q,_,Th,L,m,D,D,dN,V,X⟩,o.step g,v.step g,D,λC al hk=>aE C ((bs C al).resolve_right λS=>by subst S;omega) hk⟩
 ·rintro j h ⟨z,⟨ver,E,M,H,I,J,A,Lk,Q,R,Th,L,e,aN,aX,a6,V,X⟩,o,v,de,aE,u,x,y,P⟩;have eO:=bC.1.2.1;have ef:∀{i:Nat} (ca:i<d.dW.length),rO (d.dW.take (i+1))=rO (d.dW.take i)+ei.ws d.dW[i].body:=λ{i} ca=>by
   unfold rO;rw[aM ca,List.map_append,List.sum_append];simp
  have ec:∀i,rO (d.dW.take i)<=1000000:=λi=>by
   have:rO d.dW<=1000000:=bC.2.1;have x:rO d.dW=rO (d.dW.take i)+rO (d.dW.drop i):=by unfold rO;rw[<-List.sum_append,<-List.map_append,cS]
   omega
  simp[u,P,o.get];refine gu d.dW.length D (λi j h=>WoS h 1000000 i (rO (d.dW.take i)) z/\Lb 2 h 0 (dS 2 0 [d.t])/\Lb 2 h 1 I8/\dT j 1 (.ptr 0 0 0 0)/\dT j 2 (.ptr 1 0 0 0)/\dT j 3 (.ptr 2 0 0 0)/\dT j 9 (G i)) ?_ ?_ D ⟨⟨ver,E,M,H,I,J,A,Lk,Q,R,Th,L,e,D,D,D,V,by simpa[rO]using X⟩,o,v,by simp[u,x,y]⟩
  ·rintro i j h aA ap ⟨⟨ver,E,M,H,I,J,A,Lk,Q,R,Th,L,e,aN,aX,a6,V,X⟩,o,v,u,x,y,bp⟩;have eB:=ef aA;have eC:=ec (i+1);have U:=e.get;simp at U;have⟨Z,a7,O,l⟩:=(e.gr 4 rfl).my (cx:=cx) (f:=T.str) e.ok sO rfl yq rfl Y Y (d.dW[i].name) dN;have⟨s,a8,K⟩:=e.app 4 rfl l;have⟨g,m⟩:=K _ rfl;simp at s g m;simp[u,y,bp,aA,o.get,U,O,s,eZ,l.1.iN,l.1.cells];have cL:=o.step g;have er:=v.step g;have b8:=m.get;simp at b8;generalize fg a7 2 _=eD at*
   simp[u,bp,aA,cL.get,b8,(m.gr 5 rfl).qC,Dx];refine jm PP Y ⟨L,A,i,0,d.dW[i].body⟩ ⟨⟨rfl,m.gr 5 rfl,m.ok,dO⟩,dO⟩ ?_;rintro _ eE ⟨eu,eP,c4,rfl,dm,bH⟩;simp only at dm bH;have⟨s,a8,K⟩:=m.app 5 rfl bH;have⟨Jg,cX⟩:=K _ rfl;simp at s Jg cX;simp[u,x,y,bp,s,eZ,bH.1.iN,bH.1.cells,ap];exact⟨⟨ver+1+1,E,M,H,I,Z,eu,Lk,Q,R,_,c4,cX,aN,aX,a6,dN,D⟩,cL.step Jg,er.step Jg⟩
  ·rintro j h ⟨⟨ver,E,M,H,I,J,A,Lk,Q,R,Th,L,e,aN,aX,a6,V,X⟩,o,v,u,x,y,bp⟩;have U:=e.get;simp at U;have bi:=e.qh v (dS 6 1 [.agg [E,M,H,I,J,A]]);have bX:=v.get;unfold I8 at bX;have dd:(fg h 1 (dS 6 1 [.agg [E,M,H,I,J,A]])).get 1=_:=(ee bX _ 1).trans (aq rfl);simp[u,x,y,bp,o.get,U,bX,eZ,dd,(bi.gr 0 rfl).fz Y,(bi.gr 1 rfl).fz Y,(bi.gr 2 rfl).fz Y,(bi.gr 3 rfl).fz Y,(bi.gr 4 rfl).fz Y,(bi.gr 5 rfl).fz Y];refine⟨⟨_,rfl,λ_=>⟨dO,dO,dO,dO,dO,?_⟩⟩,e.ok.hp⟩;obtain⟨c,ds,hk,bB⟩:=eb;have av:=aE c (by rw[aI];exact ds) hk;unfold Mj at av;rw[bB]at av;rcases IX (z.map iK.name) [113] 0 with S|⟨n,bW,S⟩
   ·have:=IY (z.map iK.name) [113] 0;rw[S,eq_true av]at this;simp at this
   ·exact⟨n,by simpa using bW,by rw[S];simp⟩
 ·have⟨et,b7⟩:=nS.start (h:=((hE.cons (dS 2 0 [d.t])).cons I8).cons I8) (w:=2) (szw:=6) (ver:=0) (F:=[(dR,some (5,[])),(dR,some (2,[])),(dR,some (2,[])),(dR,some (1,[])),(dR,some (1,[])),(dR,some (3,[]))]) ⟨Y,Y,Y⟩ (by simp[I8]) Y;exact⟨[],⟨0,_,_,_,_,_,_,[],[],[],[],[],et,Y,Y,Y,Y,Y⟩,⟨Y,λq=>absurd (b7 0 q) dP⟩,⟨by simp[I8],λq=>absurd (b7 1 q) dP⟩,Y⟩
def eT(a:Int×T):T:= .agg [.int .i64 a.1,a.2]
def aeP{e:H}{c:Nat->Prop}{g:Int}{b d f:Nat}{a:List io}(h:c b)(j:e.jM (.arr b d 0 f false)=some (a.map io.t)):FT e c 4 (eT (g,.arr b d 0 f false)) (im.t ⟨g,a⟩):=by
 have i:∀a:List io,jh (FT e c 2) (a.map io.t) (a.map io.t):=λa=>by
  induction a with
  |nil=>exact .nil
  |cons l a k=>exact .cons (.inr (.inr ⟨_,_,rfl,.cons (iC ..) (.cons (iC ..) (.cons (iC ..) (.cons (iC ..) (.cons (iC ..) (.cons (iC ..) .nil))))),rfl⟩)) k
 exact .inr (.inr ⟨_,_,rfl,.cons (iC ..) (.cons (.inr (.inl ⟨b,d,0,f,false,_,_,rfl,h,j,i a,rfl⟩)) .nil),rfl⟩)
def PcS(W:fc)(a:H)(f:Nat):Prop:=∃g e,∃b:List (Int×T),∃d:List im,nS a 2 7 g [(sl (W.cells.map iK.t),none),(sl (W.fj.map ja.t),none),(sl (W.iB.map jq.t),none),(sl (W.fa.map T.str),none),(sl (W.dW.map T.str),none),(sl (W.ji.map jc.t),none),(e,some (2,b.map eT))]/\
 jh (FT a (λc=>2<c/\c<a.size/\¬Fp a 2 c) 4) (b.map eT) (d.map im.t)/\b.length=f/\∀h∈d,h.jO.length<=10000001
def TE{h:H}{w:Nat}{x:jv}(f:h.get w=some x)(g:∀b∈gH x.fR,eG b=none)(c:Nat)(e:Fp h w c):c=w:=by
 rcases e with a|⟨j,d,b,i,a⟩
 ·exact a
 ·rw[f]at d;cases d;rw[g b i]at a;simp at a
structure Kp(h h':H):Prop where
 sz:h.size<h'.size
 get:∀b,b<h.size->h'.get b=h.get b
 fp:∀b,Fp h' h.size b->h.size<=b
def Kp.step{c f g:H}(b:Kp c f)(e:Step c.size f g):Kp c g:=
 ⟨bF b.sz e.ok.sz,λa d=>(e.get a (by have:=b.sz;omega) λh=>by have:=b.fp a h;omega).trans (b.get a d),λa d=>(e.fp a d).elim (b.fp a) λh=>by have:=b.sz;omega⟩
def Kp.new{h:H}(g:iE 0 h)(W:fc)(a:List (List Nat))(c:Int):Kp h (h.cons ⟨10,0,0,true,false,[.agg (vy W a (.ed [] false) 0 c)]⟩)/\Gn W a 0 (h.cons ⟨10,0,0,true,false,[.agg (vy W a (.ed [] false) 0 c)]⟩) h.size:=by
 have f:=TE (h:=h.cons ⟨10,0,0,true,false,[.agg (vy W a (.ed [] false) 0 c)]⟩) (w:=h.size) (x:=⟨10,0,0,true,false,[.agg (vy W a (.ed [] false) 0 c)]⟩) (by rw[ez,aq rfl]) (λi e=>by
  simp[gH,vy,T.cells]at e;rcases e with rfl|rfl|rfl|rfl|rfl|rfl|rfl|rfl|rfl|rfl<;>simp)
 exact⟨⟨Y,λb d=>by rw[ez,ao D],λb d=>by rw[f b d];exact au _⟩,g.cons _,λb d=>by rw[f b d];simp,0,.ed [] false,0,c,[],by rw[ez,aq rfl],Gr.nil _ _,rfl⟩
structure Sn(h h':H):Prop where
 ok:iE 0 h'
 size:h'.size=h.size+1
 get:∀c,c<h.size->h'.get c=h.get c
def Sn.new{h:H}(c:iE 0 h)(a:jv):Sn h (h.cons a):=⟨c.cons a,Y,λd e=>by rw[ez,ao D]⟩
theorem Sn.put{a b:H}(d:Sn a b){x:jv}(g:b.get a.size=some x)(e:jv):Sn a (fg b a.size e):=⟨d.ok.put _ e,by rw[ig];exact d.size,λc f=>by rw[ee g,ao D];exact d.get c f⟩
def KY:jv:=⟨7,0,0,true,false,[.agg [.ed [] false,.ed [] false,.ed [] false,.ed [] false,.ed [] false,.ed [] false,.ed [] false]]⟩
def CR:o9 prog cx 75 (λc:ik=>[c.t]) (λc=>PW c/\c.dW.length<=100) (λc m=>∃(b:ky) (e l:Int),m= .tuple [b.t,.int .i64 e,.int .i64 l]/\∀M∈b.dW,M.jO.length<=10000001):=by
 refine AA (tb:=⟨pt [(109,kG.jX),(110,EF.jX),(113,pI)],ht [(111,Gf 10000001),(112,jY F5 wN tu)]⟩) jg iT (jr 19808249554385699031857790975 [] func75) (λc=>10000005) (λV j h=>by simp at h;exact ik.inj h) Y nl9 ?_;rintro c ⟨bT,eW⟩ a bW;simp at bW;have bp:=bT.1;have c6:=λ{tb:gG} (ht:tb.p 109=some kG.jX)=>c04 ht c bp;obtain⟨_,⟨W,rfl,a8⟩,c7⟩:=EF.use c bT;simp[f75,bW,c6];refine fw (λae=>?_) (λae=>?_)
 ·simp at ae;simp[ae];exact⟨⟨⟨[],[],[],[],[],[]⟩,[]⟩,rfl,Y⟩
 have a8:=a8 (by simpa using ae);simp[c7];refine gu c.dW.length D (λi a h=>PcS W h i/\Lb 2 h 0 ⟨2,0,0,true,false,[c.t]⟩/\Lb 2 h 1 KY/\TI.d8 a 1=some (.ptr 0 0 0 0)/\TI.d8 a 2=some (.ptr 1 0 0 0)/\TI.d8 a 7=some (.ptr 2 0 0 0)/\(∃av:Int,TI.d8 a 8=some (.int .i64 av))/\TI.d8 a 9=some (.int .i64 i)) ?_ ?_ D ?_
 ·rintro i a h al dn ⟨cF,U,S,s,y,u,⟨av,z⟩,v⟩;have e8:=cF;obtain⟨ver,aA,E,X,g,V,hE,bi⟩:=cF;have R:=g.get;simp at R;have eo:(0=h.size)=False:=by have:=g.lt;simp;omega
  have eR:(2=h.size)=False:=by have:=g.lt;simp;omega
  simp[s,u,z,v,al,U.get,R,eo];have ht:=bp.1.2.2 c.dW[i] (aC al);have eh:=bp.2.2.1 c.dW[i] (aC al);have eX:c.dW[i]? =some c.dW[i]:=az al;generalize c.dW[i]=c1 at*
  have⟨r,er⟩:=Kp.new g.ok W c1.locals av;refine OD (PL 10000001) Y er a8 ht.1 eh D D λeH cb eB e4 e5 b9=>?_;replace r:=r.step eB;have⟨ff,e7,fb,bu,eE,gA,de,dm⟩:=b9.ex;have⟨Jg,et⟩:=b9.J4 gA de dm (-1) bu;replace r:=r.step Jg;simp only[vy]at gA;simp[gA,eZ];refine pX (i:=⟨28,0,0,0,0,0⟩) Y et D λK eC ca=>?_;replace r:=r.step eC;have⟨fi,fe,e6,c4,j,Z,fo,eF,eD,gC,aN,eL,eb,b8,eI,ec⟩:=ca.opn D;have eS:(K.size=h.size)=False:=by have:=r.sz;simp;omega
  have bX:j<K.size:=H.fG aN;have eM:=r.fp j eb;have cp:=ca.ok;simp only[vy]at gC;have eP:cb+1<=1000001:=D;generalize cb+1=P at*
  generalize b6:h.size=Q at*
  simp[gC,cp.low];refine gu P D (λk a x=>∃(m:Int) (C:Nat),Sn K x/\x.get K.size=some ⟨2,0,C,true,false,[.agg [.int .i64 m,.arr j Z 0 P false]]⟩/\TI.d8 a 1=some (.ptr 0 0 0 0)/\TI.d8 a 2=some (.ptr 1 0 0 0)/\TI.d8 a 7=some (.ptr 2 0 0 0)/\TI.d8 a 8=some (.int .i64 bu)/\TI.d8 a 9=some (.int .i64 i)/\TI.d8 a 10=some (.ptr Q 0 0 0)/\TI.d8 a 11=some (.ptr K.size 0 0 0)/\TI.d8 a 12=some (.int .i64 k)) ?_ ?_ D ?_
  ·rintro k a x b7 ds ⟨m,C,o,A,s,y,u,z,v,I,N,J⟩;have aE:=(o.get Q (by rw[<-b6];exact r.sz)).trans gC;have di:=(o.get j bX).trans aN;have⟨M,bs⟩:=ec k b7;simp[I,J,aE,di,b7,bs,xe];have eU:(jA M).length<=3:=by unfold jA;(repeat' split)<;>simp
   refine gu (jA M).length D (λn a x=>∃(m:Int) (C:Nat),Sn K x/\x.get K.size=some ⟨2,0,C,true,false,[.agg [.int .i64 m,.arr j Z 0 P false]]⟩/\TI.d8 a 1=some (.ptr 0 0 0 0)/\TI.d8 a 2=some (.ptr 1 0 0 0)/\TI.d8 a 7=some (.ptr 2 0 0 0)/\TI.d8 a 8=some (.int .i64 bu)/\TI.d8 a 9=some (.int .i64 i)/\TI.d8 a 10=some (.ptr Q 0 0 0)/\TI.d8 a 11=some (.ptr K.size 0 0 0)/\TI.d8 a 12=some (.int .i64 k)/\TI.d8 a 13=some (sl ((jA M).map (T.int .i64)))/\TI.d8 a 14=some (.int .i64 n)) ?_ ?_ D ⟨m,C,o,A,by simp[s,y,u,z,v,I,N,J]⟩
   ·rintro n a x bn dv ⟨m,C,o,A,s,y,u,z,v,I,N,J,aX,a6⟩;simp[s,y,u,z,v,I,N,J,aX,a6,bn,A,pP,eZ];exact⟨o.put A _,⟨_,_,(ee A _ _).trans (aq rfl)⟩,by simpa[pP]using dv⟩
   ·rintro a x ⟨m,C,o,A,s,y,u,z,v,I,N,J,aX,a6⟩;simp[s,y,u,z,v,I,N,J,aX,a6,ds];exact⟨o,m,C,A⟩
  ·rintro a x ⟨m,C,o,A,s,y,u,z,v,I,N,J⟩;have O:∀b,b<h.size->x.get b=h.get b:=λb B=>(o.get b (by have:=r.sz;omega)).trans (r.get b B);have bA:=g.step o.ok λb B=>O b (g.fp b B);have bS:=bA.get;simp at bS;have⟨bB,a7,bH,bC⟩:=(bA.gr 6 rfl).my (cx:=cx) (f:=eT) o.ok WM rfl WC rfl Y (λM=>rfl) (m,.arr j Z 0 P false) dN;have⟨cL,e9,eu⟩:=bA.app 6 rfl bC;have⟨L,cX⟩:=eu _ rfl;simp at cL L cX;simp only[eT]at bH;have aE:=(o.get Q (by rw[<-b6];exact r.sz)).trans gC;simp[aE,s,y,u,z,v,I,N,J,A,bS,bH,cL,eZ,bC.1.iN,bC.1.cells,dn];have eV:=o.size;have eN:=r.sz;have an:=jt (O 2 g.lt);have ea:∀b,b<Q->¬Fp h 2 b->(fg a7 2 _).get b=h.get b:=λb B bn=>(L.get b D (by rw[an];exact bn)).trans (O b D);have eO:=g.lt;refine⟨⟨_,bB,E++[(m,.arr j Z 0 P false)],X++[⟨m,c4⟩],by simpa using cX,?_,dN,λM bs=>?_⟩,(U.md (O 2 g.lt) (O 0 U.lt)).step L,(S.md (O 2 g.lt) (O 1 S.lt)).step L⟩
   ·rw[List.map_append,List.map_append];have e0:x.size<=(fg a7 2 (⟨7,0,ver+1,true,false,[.agg [sl (W.cells.map iK.t),sl (W.fj.map ja.t),sl (W.iB.map jq.t),sl (W.fa.map T.str),sl (W.dW.map T.str),sl (W.ji.map jc.t),bB]]⟩:jv)).size:=L.ok.sz;refine jh.append (V.ft λb B=>⟨⟨B.1,D,λq=>?_⟩,ea b B.2.1 B.2.2⟩) (.cons (aeP ⟨D,D,λq=>?_⟩ ?_) .nil)
    ·rcases L.fp b q with q|q
     ·rw[an]at q;exact B.2.2 q
     ·omega
    ·rcases L.fp j q with q|q
     ·rw[an]at q;have:=g.fp j q;omega
     ·omega
    ·have dk:(fg a7 2 (⟨7,0,ver+1,true,false,[.agg [sl (W.cells.map iK.t),sl (W.fj.map ja.t),sl (W.iB.map jq.t),sl (W.fa.map T.str),sl (W.dW.map T.str),sl (W.ji.map jc.t),bB]]⟩:jv)).get j=_:=((L.get j D λq=>by rw[an]at q;have:=g.fp j q;omega).trans (o.get j bX)).trans aN;have ef:P<=eD.length:=by
      have:=bO List.length b8;rw[List.length_take,aG]at this;omega
     rw[iF,dk];simp[ef,b8]
   ·rcases List.mem_append.1 bs with q|q
    ·exact bi M q
    ·rw[List.mem_singleton.1 q];simp only;omega
  ·exact⟨c1.locals.length,1,Sn.new cp _,Y,by simp[s,y,u,v]⟩
 ·rintro a h ⟨⟨ver,aA,E,X,g,V,hE,bi⟩,U,S,s,y,u,⟨av,z⟩,v⟩;have R:=g.get;simp at R;have ap:=S.get;unfold KY at ap;have eA:=g.qh S ⟨7,0,1,true,false,[.agg [sl (W.cells.map iK.t),sl (W.fj.map ja.t),sl (W.iB.map jq.t),sl (W.fa.map T.str),sl (W.dW.map T.str),sl (W.ji.map jc.t),aA]]⟩;have dd:(fg h 1 ⟨7,0,1,true,false,[.agg [sl (W.cells.map iK.t),sl (W.fj.map ja.t),sl (W.iB.map jq.t),sl (W.fa.map T.str),sl (W.dW.map T.str),sl (W.ji.map jc.t),aA]]⟩).get 1=_:=(ee ap _ 1).trans (aq rfl);have c9:=(eA.gr 6 rfl).KH (d:=4) D (V.ft (V':=λ_=>True) λj eK=>⟨trivial,by rw[ee ap,ao D]⟩);simp[s,y,u,v,U.get,R,ap,eZ,dd,c9];exact⟨⟨⟨W,X⟩,rfl,bi⟩,g.ok.hp⟩
 ·have⟨ey,bN⟩:=nS.start (h:=((hE.cons ⟨2,0,0,true,false,[c.t]⟩).cons KY).cons ⟨7,0,1,true,false,[.agg [sl (W.cells.map iK.t),sl (W.fj.map ja.t),sl (W.iB.map jq.t),sl (W.fa.map T.str),sl (W.dW.map T.str),sl (W.ji.map jc.t),.ed [] false]]⟩) (w:=2) (szw:=7) (ver:=1) (F:=[(sl (W.cells.map iK.t),none),(sl (W.fj.map ja.t),none),(sl (W.iB.map jq.t),none),(sl (W.fa.map T.str),none),(sl (W.dW.map T.str),none),(sl (W.ji.map jc.t),none),(.ed [] false,some (2,[]))]) ⟨Y,Y,Y⟩ (by simp[KY]) Y;exact⟨⟨_,_,[],[],ey,.nil,rfl,Y⟩,⟨Y,λq=>absurd (bN 0 q) dP⟩,⟨by simp[KY],λq=>absurd (bN 1 q) dP⟩,Y⟩
