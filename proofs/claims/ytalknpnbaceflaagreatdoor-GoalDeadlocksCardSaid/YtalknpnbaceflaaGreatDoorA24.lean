/- W06w -/
import Derived.Test.YtalknpnbaceflaaGreatDoorA20
import Derived.Test.YtalknpnbaceflaaGreatDoorA23
set_option linter.all false
set_option maxRecDepth 100000
set_option maxHeartbeats 0
namespace Go.Proofs.YtalknpnbaceflaaGreatDoor
noncomputable section
open Go Go.TI Tryz
attribute [-simp] List.map_take List.map_drop List.map_append ij gG fK Bool.not_or Bool.not_and
attribute [simp] ig gJ
structure ISi where
 (O:List js) (v:T) (t n:Int) (l:List eQ)
def ael(a:ISi)(c:List T)(b:H):Prop:=c=[a.v,C a.t,C a.n,sl (a.l.map eQ.t)]/\Gr b a.v 3 (a.O.map js.t)/\iQ 0 b/\a.O.length+eQ.ws a.l<=10000000
def aal(a:ISi)(h:List T)(d:H)(g:T)(e:H):Prop:=∃c f,∃b:List js,g= .tuple [c,C f]/\b.length<=a.O.length+eQ.ws a.l/\Xt d a.v 3 (b.map js.t) c e
abbrev rSi(d:Nat):mN:=km ISi (λa b c=>ael a b c/\eQ.ws a.l<d) aal
def MJ(z:Nat)(F:(rSi z).Ok prog cx 158):(rSi (z+1)).Ok prog cx 158:=by
 refine kh (tb:=⟨pt [],ht [(158,rSi z)]⟩) jv jl (jF 18191 [] func158) (λ_ _=>10000005) (λb a m P=>by obtain⟨⟨rfl,_⟩,_⟩:=P;simp[f158]) ?_;rintro⟨v,u,o,Q,l⟩ _ m ⟨⟨rfl,A,S,O⟩,N⟩ d D;simp only at A O N;simp at D;obtain⟨n,e,i,c⟩:=D;have hl:=eQ.xz (l:=l);have Z:Xt (hr m) u 3 (v.map js.t) u (hr m):=Xt.refl (A.mono λJ _=>iU m J) S.hr;simp[f158];refine ik l.length B (λb d w=>∃p j,∃g:List js,Y d 0 p/\Y d 1 (C o)/\Y d 2 (C j)/\Y d 3 (sl (l.map eQ.t))/\Y d 10 (C b)/\g.length<=v.length+eQ.ws (l.take b)/\Xt (hr m) u 3 (g.map js.t) p w) ?_ ?_ B ⟨u,Q,v,by simp[n,e,i,c,Z]⟩
 ·rintro b d w y L ⟨p,j,g,n,e,i,c,h,x,k⟩;have aA:=eQ.IF l y;have av:=eQ.AD l (b+1);have⟨V,ae,K,q⟩:=k.1.m9 (cx:=cx) (f:=js.t) ⟨k.2.2.2.hp,k.2.2.2.low,ay _⟩ abo rfl XF rfl G G (⟨o,j,l[b].xx⟩:js) dR;simp[n,e,i,c,h,y];have E:l[b]? =some l[b]:=aB y;generalize l[b]=s at*
  have ap:=s.nd;simp[e,i,c,h,K,qm,E,q.1.rZ,En];refine jB F G ⟨g++[⟨o,j,s.xx⟩],V,o,_,s.body⟩ ⟨⟨rfl,q.1,⟨q.2.2.2.hp,q.2.2.2.low,ay _⟩,dR⟩,dS⟩ ?_;rintro _ al ⟨W,R,H,rfl,T,r⟩;simp only[aV,List.length_singleton]at T;simp[e,c,h,E,r.1.rZ,En];refine jB F G ⟨H,W,o,R,s.Rv⟩ ⟨⟨rfl,r.1,⟨r.2.2.2.hp,r.2.2.2.low,ay _⟩,dS⟩,dS⟩ ?_;rintro _ an ⟨aN,aE,I,rfl,U,ab⟩;simp only at U;simp[e,c,h,L];exact⟨I,B,((k.trans q).trans r).trans ab⟩
 ·rintro d w ⟨p,j,g,n,e,i,c,h,x,k⟩;rw[aL]at x;simp[n,i,c,h];exact⟨p,j,g,rfl,x,k.out⟩
def QX:(rSi 10000001).Ok prog cx 158:=z9 (λa:ISi=>eQ.ws a.l) MJ 10000001
def e04(c:iA):Int:=Classical.epsilon λa=>∃b,kW.kc.R c= .tuple [C a,C b]
def l04(a:iA):Int:=Classical.epsilon λb=>kW.kc.R a= .tuple [C (e04 a),C b]
def c04{c:io}(ht:c.p 111=some kW.kc)(p:iA)(b:KN p):rl prog cx c 111 [p.t]=some (.tuple [C (e04 p),C (l04 p)]):=by
 have e:∃a,kW.kc.R p= .tuple [C (e04 p),C a]:=Classical.epsilon_spec (p:=λd=>∃a,kW.kc.R p= .tuple [C d,C a]) (kW.2 p b);exact(iN ht kW.1 p b).trans (bL some (Classical.epsilon_spec e))
def Q4(b:iA):Prop:=KN b/\b.kf.length<=100/\(∀a∈b.kf,a.size<=4)/\∃a∈b.kf,a.fh=1/\a.name=[113]
def WoS(m:H)(a n f:Nat)(e:List iY):Prop:=∃o g h i j k l,∃(Lk:List jq) (b:List jG) (c Th:List (List Nat)) (d:List js),oJ m 2 6 o [(g,some (5,e.map iY.t)),(h,some (2,Lk.map jq.t)),(i,some (2,b.map jG.t)),(j,some (1,c.map T.str)),(k,some (1,Th.map T.str)),(l,some (3,d.map js.t))]/\
 Lk.length<=a/\b.length<=a/\c.length<=a/\Th.length<=n/\d.length<=f
def WoS.le{e:H}{b c f d:Nat}{a:List iY}(r:WoS e b f d a)(x:b<=c):WoS e c f d a:=by
 obtain⟨t,j,k,l,m,n,o,Lk,g,h,Th,i,s,u,v,w,p,q⟩:=r;exact⟨t,j,k,l,m,n,o,Lk,g,h,Th,i,s,B,B,B,p,q⟩
def Nd(b:List Nat)(a:List iY):Prop:=b∈a.map iY.name
def Kc:jK:=(X 6 0 [.eZ [dV,dV,dV,dV,dV,dV]])
def Fy:pM prog cx 112 (λd:iA=>[d.t]) Q4 (λd r=>∃W:fy,r=W.t/\(e04 d=0->okW W)):=by
 refine Bg (tb:=⟨pt [(111,kW.kc),(157,vw)],ht [(158,rSi 10000001)]⟩) jv jl (jF 316913254556860716756833993695 [(21,[(1,8),(3,8)])] func112) (λd=>1000005) (λa b h=>by simp at h;exact iA.inj h) G nl9 ?_;rintro d ⟨bS,eI,bH,ed⟩ l cd;simp at cd;have c9:=λ{tb:io} (ht:tb.p 111=some kW.kc)=>c04 ht d bS;have hl:=bS.1.1;simp[f112,cd,c9];refine fN (λb6=>?_) (λb6=>?_)
 ·simp at b6;simp[b6];exact⟨⟨[],[],[],[],[],[]⟩,rfl⟩
 simp;refine ik d.kf.length B (λi l h=>∃A,WoS h i 0 0 A/\Lb 2 h 0 (X 2 0 [d.t])/\Lb 2 h 1 Kc/\A.length<=4*i/\(∀c∈d.kf.take i,c.fh=1->Nd c.name A)/\Y l 1 (.fc 0 0 0 0)/\Y l 2 (.fc 1 0 0 0)/\Y l 3 (.fc 2 0 0 0)/\Y l 6 (C i)) ?_ ?_ B ?_
 ·rintro i l h a6 aN ⟨A,⟨ver,I,Q,J,K,L,D,Lk,U,ab,Th,P,g,a8,bg,bi,al,an⟩,s,x,dk,a7,v,y,z,S⟩;have ae:=g.get;simp at ae;have eL:(0=h.size)=False:=by have:=g.lt;simp;omega
  have eM:(2=h.size)=False:=by have:=g.lt;simp;omega
  have bB:∀c∈d.kf.take (i+1),c∈d.kf.take i\/c=d.kf[i]:=λc bH=>by
   rw[aP a6]at bH;exact(List.mem_append.1 bH).imp id λq=>List.mem_singleton.1 q
  have eO:=bH d.kf[i] (aG a6);simp[v,S,a6,s.get,g.ok.low];generalize d.kf[i]=c at*
  have E:=g.cons (X 6 1 [c.t]);have c6:=Step.cons g.ok g.lt (X 6 1 [c.t]);have av:=Lb.new g.lt g.fp (X 6 1 [c.t]);replace s:=s.step c6;replace x:=x.step c6;have bu:(h.cons (X 6 1 [c.t])).get 2=h.get 2:=by rw[fk,Z (by have:=g.lt;omega)]
  rw[ae]at bu;generalize eN:h.size=b9 at*
  generalize h.cons (X 6 1 [c.t])=eB at*
  by_cases eo:c.fh=1\/c.fh=2
  ·have bC:∃N:Nat,max c.size 1=N/\1<=N/\N<=4:=⟨(max c.size 1).toNat,B,B,B⟩;obtain⟨N,bC,dn,eH⟩:=bC;rcases eo with hk|hk<;>(
    simp[hk];refine ik N B (λk l h=>∃aE,WoS h i 0 0 aE/\Lb 2 h 0 (X 2 0 [d.t])/\Lb 2 h 1 Kc/\Lb 2 h b9 (X 6 1 [c.t])/\aE.length<=4*i+k/\(∀n,Nd n A->Nd n aE)/\(1<=k->Nd c.name aE)/\Y l 1 (.fc 0 0 0 0)/\Y l 2 (.fc 1 0 0 0)/\Y l 3 (.fc 2 0 0 0)/\Y l 6 (C i)/\Y l 7 (.fc b9 0 0 0)/\Y l 8 (C k)) ?_ ?_ B ⟨A,⟨ver,I,Q,J,K,L,D,Lk,U,ab,Th,P,E,a8,bg,bi,al,an⟩,s,x,av,B,λ_ h=>h,λh=>by omega,by simp[v,y,z,S]⟩
    ·rintro k l h eb dv ⟨aE,⟨ver,I,Q,J,K,L,D,Lk,U,ab,Th,P,g,a8,bg,bi,al,an⟩,s,x,av,dm,aX,bN,v,y,z,S,bW,bX⟩;have ae:=g.get;simp at ae;have eK:(k:Int)<max c.size 1:=B;have⟨ap,bn,R,m⟩:=(g.gr 0 rfl).m9 (cx:=cx) (f:=iY.t) g.ok abq rfl XG rfl G G (⟨c.name,k,c.size,decide (c.fh=2),c.ka⟩:iY) dR;have⟨u,bp,O⟩:=g.app 0 rfl m;have⟨j,o⟩:=O _ rfl;simp at u j o;simp[hk]at R;simp[hk,v,y,z,S,bW,bX,av.get,ae,eb,bC,R,u,fG,m.1.jc,m.1.cells,dv];exact⟨_,⟨ver+1,ap,Q,J,K,L,D,Lk,U,ab,Th,P,o,a8,bg,bi,al,an⟩,s.step j,x.step j,av.step j,dR,λn b7=>by have:=aX n b7;unfold Nd at*;rw[List.map_append];exact dw _ this,by unfold Nd;simp⟩
    ·rintro l h ⟨aE,eA,s,x,av,dm,aX,bN,v,y,z,S,bW,bX⟩;simp[hk,v,y,z,S,bW,bX,av.get,bC,aN];exact⟨aE,eA.le B,s,x,B,λH aA ec=>by
      rcases bB H aA with q|rfl
      ·exact aX _ (a7 H q ec)
      ·exact bN dn⟩)
  have er:¬c.fh=1/\¬c.fh=2:=B;by_cases cF:c.fh=3
  ·have⟨ap,bn,R,m⟩:=(E.gr 1 rfl).m9 (cx:=cx) (f:=jq.t) E.ok UO rfl Pw rfl G G (⟨c.name,false⟩:jq) dR;have⟨u,bp,O⟩:=E.app 1 rfl m;have⟨j,o⟩:=O _ rfl;simp at u j o;simp[cF,v,y,z,S,av.get,bu,aN,R,u,fG,m.1.jc,m.1.cells];exact⟨A,⟨ver+1,I,ap,J,K,L,D,_,U,ab,Th,P,o,dR,B,B,al,an⟩,s.step j,x.step j,B,λH aA hk=>a7 H ((bB H aA).resolve_right λe=>by subst e;omega) hk⟩
  by_cases cL:c.fh=4
  ·have⟨ap,bn,R,m⟩:=(E.gr 1 rfl).m9 (cx:=cx) (f:=jq.t) E.ok UO rfl Pw rfl G G (⟨c.name,true⟩:jq) dR;have⟨u,bp,O⟩:=E.app 1 rfl m;have⟨j,o⟩:=O _ rfl;simp at u j o;simp[cL,v,y,z,S,av.get,bu,aN,R,u,fG,m.1.jc,m.1.cells];exact⟨A,⟨ver+1,I,ap,J,K,L,D,_,U,ab,Th,P,o,dR,B,B,al,an⟩,s.step j,x.step j,B,λH aA hk=>a7 H ((bB H aA).resolve_right λe=>by subst e;omega) hk⟩
  by_cases cX:c.fh=5
  ·have de:=(E.gr 1 rfl).rZ G;have dd:=λ{tb:io} (h:tb.p 157=some vw)=>PP h Lk c.on B;have⟨ap,bn,R,m⟩:=(E.gr 2 rfl).m9 (cx:=cx) (f:=jG.t) E.ok abp rfl XJ rfl G G (⟨c.name,uZ (Lk.map jq.name) c.on 0⟩:jG) dR;have⟨u,bp,O⟩:=E.app 2 rfl m;have⟨j,o⟩:=O _ rfl;simp at u j o;simp[cX,v,y,z,S,av.get,bu,aN,R,u,fG,m.1.jc,m.1.cells,de,dd];exact⟨A,⟨ver+1,I,Q,ap,K,L,D,Lk,_,ab,Th,P,o,B,dR,B,al,an⟩,s.step j,x.step j,B,λH aA hk=>a7 H ((bB H aA).resolve_right λe=>by subst e;omega) hk⟩
  ·have⟨ap,bn,R,m⟩:=(E.gr 3 rfl).m9 (cx:=cx) (f:=T.str) E.ok tR rfl yV rfl G G (c.name) dR;have⟨u,bp,O⟩:=E.app 3 rfl m;have⟨j,o⟩:=O _ rfl;simp at u j o;simp[er,cF,cL,cX,v,y,z,S,av.get,bu,aN,R,u,fG,m.1.jc,m.1.cells];exact⟨A,⟨ver+1,I,Q,J,ap,L,D,Lk,U,_,Th,P,o,B,B,dR,al,an⟩,s.step j,x.step j,B,λH aA hk=>a7 H ((bB H aA).resolve_right λe=>by subst e;omega) hk⟩
 ·rintro l h ⟨A,⟨ver,I,Q,J,K,L,D,Lk,U,ab,Th,P,g,a8,bg,bi,al,an⟩,s,x,dk,a7,v,y,z,S⟩;have eP:=bS.1.2.1;have eh:∀{i:Nat} (cp:i<d.ee.length),sM (d.ee.take (i+1))=sM (d.ee.take i)+eQ.ws d.ee[i].body:=λ{i} cp=>by
   unfold sM;rw[aP cp,List.map_append,List.sum_append];simp
  have ef:∀i,sM (d.ee.take i)<=1000000:=λi=>by
   have:sM d.ee<=1000000:=bS.2.1;have y:sM d.ee=sM (d.ee.take i)+sM (d.ee.drop i):=by unfold sM;rw[<-List.sum_append,<-List.map_append,df]
   omega
  simp[v,S,s.get];refine ik d.ee.length B (λi l h=>WoS h 1000000 i (sM (d.ee.take i)) A/\Lb 2 h 0 (X 2 0 [d.t])/\Lb 2 h 1 Kc/\Y l 1 (.fc 0 0 0 0)/\Y l 2 (.fc 1 0 0 0)/\Y l 3 (.fc 2 0 0 0)/\Y l 9 (C i)) ?_ ?_ B ⟨⟨ver,I,Q,J,K,L,D,Lk,U,ab,Th,P,g,B,B,B,al,by simpa[sM]using an⟩,s,x,by simp[v,y,z]⟩
  ·rintro i l h a6 aN ⟨⟨ver,I,Q,J,K,L,D,Lk,U,ab,Th,P,g,a8,bg,bi,al,an⟩,s,x,v,y,z,bA⟩;have eC:=eh a6;have eD:=ef (i+1);have ae:=g.get;simp at ae;have⟨ap,bn,R,m⟩:=(g.gr 4 rfl).m9 (cx:=cx) (f:=T.str) g.ok tR rfl yV rfl G G (d.ee[i].name) dR;have⟨u,bp,O⟩:=g.app 4 rfl m;have⟨j,o⟩:=O _ rfl;simp at u j o;simp[v,z,bA,a6,s.get,ae,R,u,fG,m.1.jc,m.1.cells];have c1:=s.step j;have et:=x.step j;have cb:=o.get;simp at cb;generalize fJ bn 2 _=eE at*
   simp[v,bA,a6,c1.get,cb,(o.gr 5 rfl).rZ,En];refine jB QX G ⟨P,D,i,0,d.ee[i].body⟩ ⟨⟨rfl,o.gr 5 rfl,o.ok,dS⟩,dS⟩ ?_;rintro _ eF ⟨ey,eR,c7,rfl,ds,bT⟩;simp only at ds bT;have⟨u,bp,O⟩:=o.app 5 rfl bT;have⟨Kn,c4⟩:=O _ rfl;simp at u Kn c4;simp[v,y,z,bA,u,fG,bT.1.jc,bT.1.cells,aN];exact⟨⟨ver+1+1,I,Q,J,K,ap,ey,Lk,U,ab,_,c7,c4,a8,bg,bi,dR,B⟩,c1.step Kn,et.step Kn⟩
  ·rintro l h ⟨⟨ver,I,Q,J,K,L,D,Lk,U,ab,Th,P,g,a8,bg,bi,al,an⟩,s,x,v,y,z,bA⟩;have ae:=g.get;simp at ae;have bs:=g.qJ x (X 6 1 [.eZ [I,Q,J,K,L,D]]);have b8:=x.get;unfold Kc at b8;have di:(fJ h 1 (X 6 1 [.eZ [I,Q,J,K,L,D]])).get 1=_:=(eG b8 _ 1).trans (au rfl);simp[v,y,z,bA,s.get,ae,b8,fG,di,(bs.gr 0 rfl).fz G,(bs.gr 1 rfl).fz G,(bs.gr 2 rfl).fz G,(bs.gr 3 rfl).fz G,(bs.gr 4 rfl).fz G,(bs.gr 5 rfl).fz G];refine⟨⟨_,rfl,λ_=>⟨dS,dS,dS,dS,dS,?_⟩⟩,g.ok.hp⟩;obtain⟨c,ea,hk,bN⟩:=ed;have aX:=a7 c (by rw[aL];exact ea) hk;unfold Nd at aX;rw[bN]at aX;rcases JV (A.map iY.name) [113] 0 with e|⟨n,b7,e⟩
   ·have:=JW (A.map iY.name) [113] 0;rw[e,eq_true aX]at this;simp at this
   ·exact⟨n,by simpa using b7,by rw[e];simp⟩
 ·have⟨eu,ca⟩:=oJ.start (h:=((hE.cons (X 2 0 [d.t])).cons Kc).cons Kc) (w:=2) (szw:=6) (ver:=0) (F:=[(dV,some (5,[])),(dV,some (2,[])),(dV,some (2,[])),(dV,some (1,[])),(dV,some (1,[])),(dV,some (3,[]))]) ⟨G,G,G⟩ (by simp[Kc]) G;exact⟨[],⟨0,_,_,_,_,_,_,[],[],[],[],[],eu,G,G,G,G,G⟩,⟨G,λq=>absurd (ca 0 q) dT⟩,⟨by simp[Kc],λq=>absurd (ca 1 q) dT⟩,G⟩
def eT(a:Int×T):T:= .eZ [.int .i64 a.1,a.2]
def afz{e:H}{c:Nat->Prop}{g:Int}{b d f:Nat}{a:List iE}(h:c b)(j:e.j1 (.arr b d 0 f false)=some (a.map iE.t)):FT e c 4 (eT (g,.arr b d 0 f false)) (iC.t ⟨g,a⟩):=by
 have i:∀a:List iE,jw (FT e c 2) (a.map iE.t) (a.map iE.t):=λa=>by
  induction a with
  |nil=>exact .nil
  |cons l a k=>exact .cons (.inr (.inr ⟨_,_,rfl,.cons (iO ..) (.cons (iO ..) (.cons (iO ..) (.cons (iO ..) (.cons (iO ..) (.cons (iO ..) .nil))))),rfl⟩)) k
 exact .inr (.inr ⟨_,_,rfl,.cons (iO ..) (.cons (.inr (.inl ⟨b,d,0,f,false,_,_,rfl,h,j,i a,rfl⟩)) .nil),rfl⟩)
def PcS(W:fy)(a:H)(f:Nat):Prop:=∃g e,∃b:List (Int×T),∃d:List iC,oJ a 2 7 g [(sl (W.cells.map iY.t),none),(sl (W.fI.map jq.t),none),(sl (W.iL.map jG.t),none),(sl (W.fH.map T.str),none),(sl (W.ee.map T.str),none),(sl (W.jy.map js.t),none),(e,some (2,b.map eT))]/\
 jw (FT a (λc=>2<c/\c<a.size/\¬Fp a 2 c) 4) (b.map eT) (d.map iC.t)/\b.length=f/\∀h∈d,h.j3.length<=10000001
def Uz{h:H}{w:Nat}{x:jK}(f:h.get w=some x)(g:∀b∈iq x.gW,fq b=none)(c:Nat)(e:Fp h w c):c=w:=by
 rcases e with a|⟨j,d,b,i,a⟩
 ·exact a
 ·rw[f]at d;cases d;rw[g b i]at a;simp at a
structure Kp(h h':H):Prop where
 sz:h.size<h'.size
 get:∀b,b<h.size->h'.get b=h.get b
 fp:∀b,Fp h' h.size b->h.size<=b
def Kp.step{c f g:H}(b:Kp c f)(e:Step c.size f g):Kp c g:=
 ⟨bK b.sz e.ok.sz,λa d=>(e.get a (by have:=b.sz;omega) λh=>by have:=b.fp a h;omega).trans (b.get a d),λa d=>(e.fp a d).elim (b.fp a) λh=>by have:=b.sz;omega⟩
def Kp.new{h:H}(g:iQ 0 h)(W:fy)(a:List (List Nat))(c:Int):Kp h (h.cons ⟨10,0,0,true,false,[.eZ (wj W a (.V [] false) 0 c)]⟩)/\Gn W a 0 (h.cons ⟨10,0,0,true,false,[.eZ (wj W a (.V [] false) 0 c)]⟩) h.size:=by
 have f:=Uz (h:=h.cons ⟨10,0,0,true,false,[.eZ (wj W a (.V [] false) 0 c)]⟩) (w:=h.size) (x:=⟨10,0,0,true,false,[.eZ (wj W a (.V [] false) 0 c)]⟩) (by rw[fk,au rfl]) (λi e=>by
  simp[iq,wj,T.cells]at e;rcases e with rfl|rfl|rfl|rfl|rfl|rfl|rfl|rfl|rfl|rfl<;>simp)
 exact⟨⟨G,λb d=>by rw[fk,Z B],λb d=>by rw[f b d];exact ax _⟩,g.cons _,λb d=>by rw[f b d];simp,0,.V [] false,0,c,[],by rw[fk,au rfl],Gr.nil _ _,rfl⟩
structure Sn(h h':H):Prop where
 ok:iQ 0 h'
 size:h'.size=h.size+1
 get:∀c,c<h.size->h'.get c=h.get c
def Sn.new{h:H}(c:iQ 0 h)(a:jK):Sn h (h.cons a):=⟨c.cons a,G,λd e=>by rw[fk,Z B]⟩
theorem Sn.put{a b:H}(d:Sn a b){x:jK}(g:b.get a.size=some x)(e:jK):Sn a (fJ b a.size e):=⟨d.ok.put _ e,by rw[iy];exact d.size,λc f=>by rw[eG g,Z B];exact d.get c f⟩
def LV:jK:=⟨7,0,0,true,false,[.eZ [.V [] false,.V [] false,.V [] false,.V [] false,.V [] false,.V [] false,.V [] false]]⟩
def DG:pM prog cx 76 (λg:iA=>[g.t]) (λg=>Q4 g/\g.ee.length<=100) (λg o=>∃(c:kP) (e l:Int),o= .tuple [c.t,.int .i64 e,.int .i64 l]/\∀P∈c.ee,P.j3.length<=10000001):=by
 refine Bg (tb:=⟨pt [(111,kW.kc),(112,Fy.kc),(115,qd)],ht [(113,Hg 10000001),(114,km GZ xn ul)]⟩) jv jl (jF 19808249554385699031857790975 [] func76) (λg=>10000005) (λa m h=>by simp at h;exact iA.inj h) G nl9 ?_;rintro g ⟨b6,eX⟩ b b7;simp at b7;have bA:=b6.1;have c9:=λ{tb:io} (ht:tb.p 111=some kW.kc)=>c04 ht g bA;obtain⟨_,⟨W,rfl,bp⟩,dd⟩:=Fy.use g b6;simp[f76,b7,c9];refine fN (λap=>?_) (λap=>?_)
 ·simp at ap;simp[ap];exact⟨⟨⟨[],[],[],[],[],[]⟩,[]⟩,rfl,G⟩
 have bp:=bp (by simpa using ap);simp[dd];refine ik g.ee.length B (λi b h=>PcS W h i/\Lb 2 h 0 ⟨2,0,0,true,false,[g.t]⟩/\Lb 2 h 1 LV/\TI.M b 1=some (.fc 0 0 0 0)/\TI.M b 2=some (.fc 1 0 0 0)/\TI.M b 7=some (.fc 2 0 0 0)/\(∃aN:Int,TI.M b 8=some (.int .i64 aN))/\TI.M b 9=some (.int .i64 i)) ?_ ?_ B ?_
 ·rintro i b h av dv ⟨cX,al,ae,u,z,v,⟨aN,A⟩,x⟩;have e9:=cX;obtain⟨ver,a6,E,aX,j,a,hE,bs⟩:=cX;have ab:=j.get;simp at ab;have er:(0=h.size)=False:=by have:=j.lt;simp;omega
  have eS:(2=h.size)=False:=by have:=j.lt;simp;omega
  simp[u,v,A,x,av,al.get,ab,er];have ht:=bA.1.2.2 g.ee[i] (aG av);have eo:=bA.2.2.1 g.ee[i] (aG av);have e0:g.ee[i]? =some g.ee[i]:=aB av;generalize g.ee[i]=c6 at*
  have⟨s,et⟩:=Kp.new j.ok W c6.locals aN;refine PN (QT 10000001) G et bp ht.1 eo B B λeI cF eC e5 e6 cd=>?_;replace s:=s.step eC;have⟨fi,e8,fe,bC,eF,gA,dk,ds⟩:=cd.ex;have⟨Kn,eu⟩:=cd.K4 gA dk ds (-1) bC;replace s:=s.step Kn;simp only[wj]at gA;simp[gA,fG];refine qy (i:=⟨28,0,0,0,0,0⟩) G eu B λN eD cp=>?_;replace s:=s.step eD;have⟨fl,ff,e7,c7,m,an,fo,eH,eE,gC,a8,eM,ed,cb,eK,ef⟩:=cp.opn B;have eU:(N.size=h.size)=False:=by have:=s.sz;simp;omega
  have b8:m<N.size:=H.gh a8;have eN:=s.fp m ed;have cL:=cp.ok;simp only[wj]at gC;have eR:cF+1<=1000001:=B;generalize cF+1=S at*
  generalize b9:h.size=U at*
  simp[gC,cL.low];refine ik S B (λk b y=>∃(o:Int) (J:Nat),Sn N y/\y.get N.size=some ⟨2,0,J,true,false,[.eZ [.int .i64 o,.arr m an 0 S false]]⟩/\TI.M b 1=some (.fc 0 0 0 0)/\TI.M b 2=some (.fc 1 0 0 0)/\TI.M b 7=some (.fc 2 0 0 0)/\TI.M b 8=some (.int .i64 bC)/\TI.M b 9=some (.int .i64 i)/\TI.M b 10=some (.fc U 0 0 0)/\TI.M b 11=some (.fc N.size 0 0 0)/\TI.M b 12=some (.int .i64 k)) ?_ ?_ B ?_
  ·rintro k b y ca ea ⟨o,J,r,D,u,z,v,A,x,K,Q,L⟩;have a7:=(r.get U (by rw[<-b9];exact s.sz)).trans gC;have dm:=(r.get m b8).trans a8;have⟨P,bB⟩:=ef k ca;simp[K,L,a7,dm,ca,bB,xL];have eV:(jP P).length<=3:=by unfold jP;(repeat' split)<;>simp
   refine ik (jP P).length B (λn b y=>∃(o:Int) (J:Nat),Sn N y/\y.get N.size=some ⟨2,0,J,true,false,[.eZ [.int .i64 o,.arr m an 0 S false]]⟩/\TI.M b 1=some (.fc 0 0 0 0)/\TI.M b 2=some (.fc 1 0 0 0)/\TI.M b 7=some (.fc 2 0 0 0)/\TI.M b 8=some (.int .i64 bC)/\TI.M b 9=some (.int .i64 i)/\TI.M b 10=some (.fc U 0 0 0)/\TI.M b 11=some (.fc N.size 0 0 0)/\TI.M b 12=some (.int .i64 k)/\TI.M b 13=some (sl ((jP P).map (T.int .i64)))/\TI.M b 14=some (.int .i64 n)) ?_ ?_ B ⟨o,J,r,D,by simp[u,z,v,A,x,K,Q,L]⟩
   ·rintro n b y bu eb ⟨o,J,r,D,u,z,v,A,x,K,Q,L,bg,bi⟩;simp[u,z,v,A,x,K,Q,L,bg,bi,bu,D,qm,fG];exact⟨r.put D _,⟨_,_,(eG D _ _).trans (au rfl)⟩,by simpa[qm]using eb⟩
   ·rintro b y ⟨o,J,r,D,u,z,v,A,x,K,Q,L,bg,bi⟩;simp[u,z,v,A,x,K,Q,L,bg,bi,ea];exact⟨r,o,J,D⟩
  ·rintro b y ⟨o,J,r,D,u,z,v,A,x,K,Q,L⟩;have R:∀c,c<h.size->y.get c=h.get c:=λc I=>(r.get c (by have:=s.sz;omega)).trans (s.get c I);have bH:=j.step r.ok λc I=>R c (j.fp c I);have bX:=bH.get;simp at bX;have⟨bN,bn,bT,bS⟩:=(bH.gr 6 rfl).m9 (cx:=cx) (f:=eT) r.ok XI rfl XB rfl G (λP=>rfl) (o,.arr m an 0 S false) dR;have⟨c1,fb,ey⟩:=bH.app 6 rfl bS;have⟨O,c4⟩:=ey _ rfl;simp at c1 O c4;simp only[eT]at bT;have a7:=(r.get U (by rw[<-b9];exact s.sz)).trans gC;simp[a7,u,z,v,A,x,K,Q,L,D,bX,bT,c1,fG,bS.1.jc,bS.1.cells,dv];have eW:=r.size;have eO:=s.sz;have aA:=jJ (R 2 j.lt);have ec:∀c,c<U->¬Fp h 2 c->(fJ bn 2 _).get c=h.get c:=λc I bu=>(O.get c B (by rw[aA];exact bu)).trans (R c B);have eP:=j.lt;refine⟨⟨_,bN,E++[(o,.arr m an 0 S false)],aX++[⟨o,c7⟩],by simpa using c4,?_,dR,λP bB=>?_⟩,(al.mE (R 2 j.lt) (R 0 al.lt)).step O,(ae.mE (R 2 j.lt) (R 1 ae.lt)).step O⟩
   ·rw[List.map_append,List.map_append];have e4:y.size<=(fJ bn 2 (⟨7,0,ver+1,true,false,[.eZ [sl (W.cells.map iY.t),sl (W.fI.map jq.t),sl (W.iL.map jG.t),sl (W.fH.map T.str),sl (W.ee.map T.str),sl (W.jy.map js.t),bN]]⟩:jK)).size:=O.ok.sz;refine jw.append (a.ft λc I=>⟨⟨I.1,B,λq=>?_⟩,ec c I.2.1 I.2.2⟩) (.cons (afz ⟨B,B,λq=>?_⟩ ?_) .nil)
    ·rcases O.fp c q with q|q
     ·rw[aA]at q;exact I.2.2 q
     ·omega
    ·rcases O.fp m q with q|q
     ·rw[aA]at q;have:=j.fp m q;omega
     ·omega
    ·have dn:(fJ bn 2 (⟨7,0,ver+1,true,false,[.eZ [sl (W.cells.map iY.t),sl (W.fI.map jq.t),sl (W.iL.map jG.t),sl (W.fH.map T.str),sl (W.ee.map T.str),sl (W.jy.map js.t),bN]]⟩:jK)).get m=_:=((O.get m B λq=>by rw[aA]at q;have:=j.fp m q;omega).trans (r.get m b8)).trans a8;have eh:S<=eE.length:=by
      have:=bL List.length cb;rw[List.length_take,aI]at this;omega
     rw[iR,dn];simp[eh,cb]
   ·rcases List.mem_append.1 bB with q|q
    ·exact bs P q
    ·rw[List.mem_singleton.1 q];simp only;omega
  ·exact⟨c6.locals.length,1,Sn.new cL _,G,by simp[u,z,v,x]⟩
 ·rintro b h ⟨⟨ver,a6,E,aX,j,a,hE,bs⟩,al,ae,u,z,v,⟨aN,A⟩,x⟩;have ab:=j.get;simp at ab;have aE:=ae.get;unfold LV at aE;have eB:=j.qJ ae ⟨7,0,1,true,false,[.eZ [sl (W.cells.map iY.t),sl (W.fI.map jq.t),sl (W.iL.map jG.t),sl (W.fH.map T.str),sl (W.ee.map T.str),sl (W.jy.map js.t),a6]]⟩;have di:(fJ h 1 ⟨7,0,1,true,false,[.eZ [sl (W.cells.map iY.t),sl (W.fI.map jq.t),sl (W.iL.map jG.t),sl (W.fH.map T.str),sl (W.ee.map T.str),sl (W.jy.map js.t),a6]]⟩).get 1=_:=(eG aE _ 1).trans (au rfl);have de:=(eB.gr 6 rfl).LD (d:=4) B (a.ft (V':=λ_=>True) λm eL=>⟨trivial,by rw[eG aE,Z B]⟩);simp[u,z,v,x,al.get,ab,aE,fG,di,de];exact⟨⟨⟨W,aX⟩,rfl,bs⟩,j.ok.hp⟩
 ·have⟨eA,bW⟩:=oJ.start (h:=((hE.cons ⟨2,0,0,true,false,[g.t]⟩).cons LV).cons ⟨7,0,1,true,false,[.eZ [sl (W.cells.map iY.t),sl (W.fI.map jq.t),sl (W.iL.map jG.t),sl (W.fH.map T.str),sl (W.ee.map T.str),sl (W.jy.map js.t),.V [] false]]⟩) (w:=2) (szw:=7) (ver:=1) (F:=[(sl (W.cells.map iY.t),none),(sl (W.fI.map jq.t),none),(sl (W.iL.map jG.t),none),(sl (W.fH.map T.str),none),(sl (W.ee.map T.str),none),(sl (W.jy.map js.t),none),(.V [] false,some (2,[]))]) ⟨G,G,G⟩ (by simp[LV]) G;exact⟨⟨_,_,[],[],eA,.nil,rfl,G⟩,⟨G,λq=>absurd (bW 0 q) dT⟩,⟨by simp[LV],λq=>absurd (bW 1 q) dT⟩,G⟩
