/- Texts W07d to W07e. -/
import Derived.Test.YtmaeadedikngoaaGreatDoorA27
import Derived.Test.YtmaeadedikngoaaGreatDoorA30
set_option linter.all false
set_option maxRecDepth 100000
set_option maxHeartbeats 8000000
namespace Go.Proofs.YtmaeadedikngoaaGreatDoor
noncomputable section
open Go Go.TI
attribute [-simp] List.map_take List.map_drop List.map_append fw eQ dZ Bool.not_or Bool.not_and
attribute [simp] fq eY
attribute [-simp] size_cons
structure R2 where
 (i:fI) (s:ee) (a b:T) (es:List T) (lo hi N:Nat)
structure TOk(N r:Nat)(s:ee):Prop where
 rl:s.iE.length=r
 tl:s.jR.length=r
 tn:∀l∈s.jR,Tn N l
def M7(c:R2)(e:List T)(d:H):Prop:=e=[c.i.t,AM c.s c.a c.b]/\At c.lo c.hi d c.a c.b c.es c.s/\c.hi<=d.size/\gF 0 d/\1<=c.i.op/\c.i.op<=5/\TOk c.N c.s.iE.length c.s/\c.s.iE.length<=1000/\c.N<=1000000
def JO(a:R2)(k:List T)(e:H)(j:T)(c:H):Prop:=∃d f g i h,j= .tuple [AM d f g,.bool h]/\At a.lo c.size c f g i d/\(∀b,b<e.size->(b<a.lo\/a.hi<=b)->c.get b=e.get b)/\gF e.size c/\(h=true->TOk a.N a.s.iE.length d/\d.dK=a.s.dK)
def At.mono{g f lo' hi':Nat}{k h':H}{h i:T}{j:List T}{l:ee}(c:At g f k h i j l)(hl:lo'<=g)(n:f<=hi')(e:∀a,g<=a->a<f->h'.get a=k.get a):At lo' hi' h' h i j l:=
 ⟨c.ga.mono λa b=>e a (c.ba a b).1 (c.ba a b).2.1,c.gb.mono λa b=>e a (c.bb a b).1 (c.bb a b).2,c.el.imp λm o d=>⟨d.1.mono λa b=>e a (d.2 a b).1 (d.2 a b).2.1,λa b=>⟨by have:=(d.2 a b).1;omega,by have:=(d.2 a b).2.1;omega,(d.2 a b).2.2⟩⟩,λa b=>⟨by have:=(c.ba a b).1;omega,by have:=(c.ba a b).2.1;omega,(c.ba a b).2.2⟩,λa b=>⟨by have:=(c.bb a b).1;omega,by have:=(c.bb a b).2;omega⟩⟩
def At.same{h g:Nat}{f:H}{c d:T}{e:List T}{b s':ee}(a:At h g f c d e b)(i:s'.iE=b.iE)(j:s'.jR=b.jR):At h g f c d e s':=⟨by rw[i];exact a.ga,a.gb,by rw[j];exact a.el,a.ba,a.bb⟩
def At.zero(e d:Nat)(c:H):At e d c dz dz [] ⟨0,[],[],0⟩:=⟨Gr.nil _ _,Gr.nil _ _,.nil,λb a=>by simp at a,λb a=>by simp at a⟩
def NE:(js R2 M7 JO).Ok Tryz.prog cx 208:=by
 refine jo (tb:=⟨pt [(97,mE),(234,xe.jf),(233,Gb.jf),(235,DA.jf)],ht [(155,js IUn M6 Ik)]⟩) ew ej (iQ 9904163146420522906957187071 [(20,[(2,4),(2,6),(2,7),(2,8)]),(10,[(2,4),(2,6),(2,7),(2,8),(2,10),(2,12),(2,13),(2,14)]),(22,[(1,11),(3,11),(5,11),(7,11),(5,13),(7,13)])] Tryz.func208) (λ_ _=>100) (λi Y g e7=>by obtain⟨rfl,_⟩:=e7;simp[Tryz.f208]) ?_;rintro⟨i,j,Y,Z,Q,dn,e5,N⟩ _ g ⟨rfl,h,e4,cv,e8,e9,w,hr,e1⟩ l c7;simp only at h e4 e8 e9 w hr e1;simp[AM]at c7;obtain⟨eX,e0⟩:=c7;simp[Tryz.f208,eX,e0,us];generalize R:(((TI.hr g).cons _).cons _).cons _=q;have F:gF 0 q:=by rw[<-R];exact((cv.hr.cons _).cons _).cons _
 have gg:q.size=g.size+1+1+1:=by rw[<-R];rfl
 have av:Nb g q:=by rw[<-R];exact⟨((((Nb.refl cv.hr).cons _).cons _).cons _).ok,λd f=>(((((Nb.refl cv.hr).cons _).cons _).cons _).get d f).trans (f9 g d)⟩
 have O:q.get g.size=some (dA 6 0 [i.t]):=by rw[<-R];simp
 have P:q.get (g.size+1)=some (dA 4 0 [.agg [dy j.pC,Y,Z,dy j.dK]]):=by rw[<-R];simp
 have aA:q.get (g.size+1+1)=some (dA 4 0 [.agg [dy 0,dz,dz,dy 0]]):=by rw[<-R];simp
 clear R;have dm:=h.ga.len (cx:=cx) q Qp _ rfl;rw[aH]at dm;have eW:∀y,(dT q (g.size+1+1) y).get (g.size+1+1)=some y:=λy=>(dI aA y _).trans (aq rfl);have gw:=Bn i;refine fh (iH i).length dq (λU l h'=>q=h'/\dB l 2 (.ptr g.size 0 0 0)/\dB l 3 (.ptr (g.size+1) 0 0 0)/\dB l 4 (.ptr (g.size+1+1) 0 0 0)/\dB l 6 (sl (gG (iH i)))/\dB l 7 (dy U)/\∀E∈(iH i).take U,0<=E/\E<j.iE.length) ?_ ?_ dq dt
 ·rintro U l _ ap e2 ⟨rfl,r,s,A,bn,bs,D⟩;have fb:(iH i).take (U+1)=(iH i).take U++[(iH i)[U]]:=aU ap;simp[s,bn,bs,ap,P,dm];generalize(iH i)[U]=E at*
  refine dW (λbi=> ?_) (λbi=> ?_)
  ·simp[A,aA,eW,dS];refine⟨⟨0,[],[],0⟩,_,_,_,false,rfl,At.zero _ _ _,λd f _=> ?_,⟨(F.put _ _).out g|>.hp,(F.put _ _).out g|>.low,du⟩,dt⟩;rw[fO,dI aA,ao dq];exact av.get d f
  ·simp at bi;simp[r,s,A,bn,bs,e2,fb];intro x cb;rcases cb with cb|rfl
   ·exact D x cb
   ·omega
 ·rintro l _ ⟨rfl,r,s,A,bn,bs,D⟩;rw[aL]at D;simp[r,bn,bs,O];have bN:oS q 1 Y (gG j.iE):= .inr (h.ga.mono λd f=>av.get d (by have:=(h.ba d f).2.1;omega));have bS:oS q 1 Z Q:= .inr (h.gb.mono λd f=>av.get d (by have:=(h.bb d f).2;omega));have bH:∀E:Int,0<=E->E<j.iE.length->∃u e,j.jR[E.toNat]? =some u/\Q[E.toNat]? =some e/\oS q 1 e (gG u)/\Tn N u:=λE r0 r1=>by
   have ap:E.toNat<j.jR.length:=by have:=w.tl;omega
   obtain⟨e,bB,k⟩:=h.el.get (az ap);exact⟨_,e,az ap,bB,k.1.mono λd f=>av.get d (by have:=(k.2 d f).2.1;omega),w.tn _ (aF ap)⟩
  refine kS (λl C=>∃(v:Int) (eu:T) (X:T) (W:List Int),DM eu/\Nb q C/\oS C 1 X (gG W)/\Tn N W/\iT i.a j.iE.length=true/\dB l 2 (.ptr g.size 0 0 0)/\dB l 3 (.ptr (g.size+1) 0 0 0)/\dB l 4 (.ptr (g.size+1+1) 0 0 0)/\dB l 8 (dy v)/\dB l 9 eu/\dB l 10 X) (λbi=> ?_) (λbi=> ?_) ?_
  ·simp[r,s,A,O,P,aA,dS,lY,F.hp,gg];refine⟨{j with pC:=i.a},Y,Z,Q,true,rfl,(h.mono (au _) du λd _ f=> ?_).same rfl rfl,λd f _=> ?_,⟨(((F.put _ _).put _ _).out g).hp,(((F.put _ _).put _ _).out g).low,du⟩,λ_=>⟨⟨rfl,w.tl,w.tn⟩,rfl⟩⟩
   all_goals (rw[fO,lY (by simpa using F.hp) du,ao dq,dI P,ao dq];exact av.get d dq)
  ·have gp:¬i.op=5:=by simpa using bi
   have f:i.op=1\/i.op=2\/i.op=3\/i.op=4:=dq;rcases f with e|e|e|e
   ·have I:=D i.a (by unfold iH;simp[e]);simp[r,s,A,O,e];exact⟨_,_,⟨_,rfl⟩,Nb.refl F,_,[],.inr (Gr.nil _ _),Tn.nil N,fj.2 ⟨I.1,dq⟩,rfl,rfl,rfl⟩
   ·have I:=D i.a (by unfold iH;simp[e]);have B:=D i.b (by unfold iH;simp[e]);obtain⟨p1,aE,aN⟩:=bN.idx (te:=FG) rfl rfl (i:=i.b.toNat) (x:= dy j.iE[i.b.toNat]) (by simp[show i.b.toNat<j.iE.length by omega]) rfl;obtain⟨u,X,hl,bk,M,K⟩:=bH i.b B.1 B.2;obtain⟨p2,aX,a6⟩:=bS.idx (te:=p8) rfl rfl bk M.gJ.2;simp[r,s,A,O,P,e,ei B.1,aE,aN,aX,a6];exact⟨_,_,⟨_,rfl⟩,Nb.refl F,_,u,M,K,fj.2 ⟨I.1,dq⟩,rfl,rfl,rfl⟩
   ·have I:=D i.a (by unfold iH;simp[e]);have B:=D i.b (by unfold iH;simp[e]);obtain⟨p1,aE,aN⟩:=bN.idx (te:=FG) rfl rfl (i:=i.b.toNat) (x:= dy j.iE[i.b.toNat]) (by simp[show i.b.toNat<j.iE.length by omega]) rfl;obtain⟨u,X,hl,bk,M,K⟩:=bH i.b B.1 B.2;obtain⟨p2,aX,a6⟩:=bS.idx (te:=p8) rfl rfl bk M.gJ.2;obtain⟨_,⟨o,rfl⟩,b8⟩:=xe.use i.n trivial;obtain⟨_,⟨fY,fm,rfl⟩,a7⟩:=Gb.use (o,j.iE[i.b.toNat]) trivial;simp only at a7;simp[r,s,A,O,P,e,ei B.1,aE,aN,aX,a6,b8,a7];exact⟨_,_,⟨_,rfl⟩,Nb.refl F,_,u,M,K,fj.2 ⟨I.1,dq⟩,rfl,rfl,rfl⟩
   ·have I:=D i.a (by unfold iH;simp[e]);have B:=D i.b (by unfold iH;simp[e]);have ca:=D i.c (by unfold iH;simp[e]);obtain⟨p1,aE,aN⟩:=bN.idx (te:=FG) rfl rfl (i:=i.b.toNat) (x:= dy j.iE[i.b.toNat]) (by simp[show i.b.toNat<j.iE.length by omega]) rfl;obtain⟨p3,eD,eE⟩:=bN.idx (te:=FG) rfl rfl (i:=i.c.toNat) (x:= dy j.iE[i.c.toNat]) (by simp[show i.c.toNat<j.iE.length by omega]) rfl;obtain⟨u,X,hl,bk,M,K⟩:=bH i.b B.1 B.2;obtain⟨l2,gd,gv,fe,ea,et⟩:=bH i.c ca.1 ca.2;obtain⟨p2,aX,a6⟩:=bS.idx (te:=p8) rfl rfl bk M.gJ.2;obtain⟨p4,eF,eH⟩:=bS.idx (te:=p8) rfl rfl fe ea.gJ.2;obtain⟨_,⟨o,rfl⟩,b8⟩:=xe.use i.n trivial;obtain⟨_,⟨fY,fm,rfl⟩,a7⟩:=DA.use (o,j.iE[i.b.toNat],j.iE[i.c.toNat]) trivial;simp only at a7;simp[r,s,O,P,e,ei B.1,ei ca.1,aE,aN,aX,a6,eD,eE,eF,eH,b8,a7];refine gY Ga dt ⟨u,l2,X,gd⟩ ⟨rfl,M,ea,by have:=K.1;have:=et.1;simp only;omega,F⟩ ?_;rintro E C ⟨fL,J,_⟩;simp[r,s,A];exact⟨_,_,⟨_,rfl⟩,J,_,_,fL,K.union et,fj.2 ⟨I.1,dq⟩,rfl,rfl,rfl⟩
  ·rintro l C ⟨v,_,X,W,⟨fo,rfl⟩,J,fE,K,I,r,s,A,c4,c6,c1⟩;have bT:=(J.get _ dq).trans O;have b6:=(J.get _ dq).trans P;have cL:=(J.get _ dq).trans aA;have gZ:=J.ok.sz;obtain⟨b9,p,b7,⟨gE,gk,gA⟩,gS,bl,L⟩:=lz (cx:=cx) (⟨J.ok.hp,J.ok.low,aw _⟩:gF 0 C) kK rfl oq kK rfl rfl dt fE.jg (by simp[T.cells]) (by have:=K.1;simp;omega);have S:=fj.1 I;have V:Nb g p:=⟨⟨L.hp,L.low,dq⟩,λd f=>(bl d dq).trans ((J.get d dq).trans (av.get d f))⟩;have gi:=(bl _ dq).trans bT;have eB:=(bl _ dq).trans b6;have eC:=(bl _ dq).trans cL;obtain⟨m,gj,gI,gm,gP,a8,c9,al,dd⟩:=(h.ga.mono (h':=p) λd f=>V.get d (by have:=(h.ba d f).2.1;omega)).IK (te:=FG) rfl (i:=i.a.toNat) (by simpa using S.2);obtain⟨z,eI,gM,gn,gQ,an,e3,bz,de⟩:=(h.gb.mono (h':=p) λd f=>V.get d (by have:=(h.bb d f).2;omega)).IK (te:=p8) rfl (i:=i.a.toNat) (by rw[h.el.length,w.tl];exact S.2);simp at b7;have bC:=(h.ba m a8).2.2;have dk:¬m=z:=λk=>bC (by rw[k];exact an);have ds:=H.ez al;have fl:=H.ez bz;have dv:=(h.ba m a8);have gB:=(h.bb z an);have gy:=dv.1;have gz:=dv.2.1;obtain⟨e,bB,fC⟩:=h.el.get (az (show i.a.toNat<j.jR.length by rw[w.tl];exact S.2));have eo:=Ia (x:= .arr C.size b9 0 W.length false) fC.1.na;have fi:Q[i.a.toNat]'(by rw[h.el.length,w.tl];exact S.2)=e:=by rw[az (by rw[h.el.length,w.tl];exact S.2)]at bB;simpa using bB
   rw[fi]at de;have er:∀x:Int,mz (dy x) 0 [dy v]=some (dy v):=λx=>rfl;have cy:∀d,d<C.size->eJ (C.cons (dA 1 0 [])) p d=true:=λd f=>ff ((bl d f).trans (by rw[dP,ao dq]));have eb:=cy g.size dq;have ec:=cy (g.size+1) dq;have ef:=mB al (show g.size≠m by omega);have eh:=mB al (show g.size+1≠m by omega);have fS:=mB al (show z≠m by omega);have eL:(g.size+1=m)=False:=du;have eM:(g.size+1=z)=False:=du;have eN:(g.size+1+1=m)=False:=du;have eO:(g.size+1+1=z)=False:=du;have eP:(z=m)=False:=du;have l1:g.size+1<p.size:=dq;have l2:g.size+1+1<p.size:=dq;have di:Z= .arr z eI 0 Q.length false:=by
    obtain⟨_,_,_,_,k,e⟩:=(h.gb.mono (h':=p) λd f=>V.get d (by have:=(h.bb d f).2;omega)).box an;rw[bz]at k;simp at k;rw[e,k.1]
   have e6:i.a.toNat<Q.length:=by rw[h.el.length,w.tl];exact S.2
   simp at dd;simp[r,s,A,c4,c6,c1,bT,b6,b7,ei S.1,c9,di,e6,al,bz,eB,eC,dd,de,er,eo,eb,ec,ef,eh,lY,L.hp,ds,fl,eL,eM,eN,eO,eP,l1,l2,dS,nJ];clear b7 cy eb ec ef eh fS bT b6 cL r s A c4 c6 c1 eo er c9 e3;have eS:=h.ga.mono (h':=p) λd f=>V.get d (by have:=(h.ba d f).2.1;omega);have eV:=h.gb.mono (h':=p) λd f=>V.get d (by have:=(h.bb d f).2;omega);rw[<-di];generalize bu:dT (dT (dT (dT p m _) z _) (g.size+1) _) (g.size+1+1) _=ae;have gV:ae.size=p.size:=by rw[<-bu];simp
   have Iu:gF 0 ae:=by rw[<-bu];exact(((L.put _ _).put _ _).put _ _).put _ _
   have G:∀d,ae.get d=if d=g.size+1+1 then _ else if d=g.size+1 then _ else if d=z then _ else if d=m then _ else p.get d:=λd=>by
    rw[<-bu,lY (by simpa using L.hp) du,lY (by simpa using L.hp) du,lY (by simpa using L.hp) du,lY L.hp ds]
   clear bu;have Go:∀d,d≠g.size+1+1->d≠g.size+1->d≠z->d≠m->ae.get d=p.get d:=λd fs fv fA fB=>by rw[G,ao fs,ao fv,ao fA,ao fB]
   have eR:=eS.setAt a8 al i.a.toNat (dy v) (h':=ae) (by rw[G,ao dq,ao dq,ao dq,aq rfl]);have eU:=eV.setAt an bz i.a.toNat (.arr C.size b9 0 W.length false) (h':=ae) (by rw[G,ao dq,ao dq,aq rfl]);have ey:∀d,dO Y=some d->d=m:=λd f=>by rw[a8]at f;simpa using f.symm
   have eA:∀d,dO Z=some d->d=z:=λd f=>by rw[an]at f;simpa using f.symm
   refine⟨⟨IntKind.i64.wrap (j.pC+1),j.iE.set i.a.toNat v,j.jR.set i.a.toNat W,j.dK⟩,Y,Z,Q.set i.a.toNat (.arr C.size b9 0 W.length false),fo,rfl,⟨?_,?_,?_,λd f=> ?_,λd f=> ?_⟩,λd f hr=> ?_,⟨(Iu.out g).hp,(Iu.out g).low,du⟩,λ_=>⟨⟨dt,by simp;exact w.tl,λu hl=> ?_⟩,rfl⟩⟩
   ·have:=eR.out g;simpa[gG,bR]using this
   ·exact eU.out g
   ·refine h.el.set i.a.toNat ⟨.inr ?_,λd f=> ?_⟩ λe u k=>⟨k.1.mono λd f=> ?_,λd f=> ?_⟩
    ·have:=Gr.new ((Go C.size dq dq dq dq).trans gA);simpa using this.out g
    ·simp at f;subst f;exact⟨by show dn<=_;omega,du,λk=>by have:=ey _ k;omega,λk=>by have:=eA _ k;omega⟩
    ·obtain⟨bC,dk,ce,cp⟩:=k.2 d f;rw[fO,Go d dq dq (λk=>cp (by rw[k];exact an)) (λk=>ce (by rw[k];exact a8))];exact V.get d dq
    ·obtain⟨bC,dk,ce,cp⟩:=k.2 d f;exact⟨bC,du,ce,cp⟩
   ·have:=h.ba d f;exact⟨this.1,du,this.2.2⟩
   ·have:=h.bb d f;exact⟨this.1,du⟩
   ·have hr:d<dn\/e5<=d:=hr;rw[fO,Go d dq dq dq dq];exact V.get d f
   ·rcases bV hl with k|rfl
    ·exact w.tn u k
    ·exact K
structure VT where
 (c:fP) (s:ee) (a b:T) (es:List T) (lo hi N:Nat)
structure TJ(N:Nat)(s:ee):Prop where
 rl:s.iE.length<=1000
 tl:s.jR.length<=1000
 tn:∀l∈s.jR,Tn N l
def M8(d:VT)(f:List T)(e:H):Prop:=f=[d.c.t,AM d.s d.a d.b]/\At d.lo d.hi e d.a d.b d.es d.s/\d.hi<=e.size/\gF 0 e/\TJ d.N d.s/\d.N<=1000000/\d.c.iW.length<=10000001
def By(e:VT)(h:List T)(c:H)(g:T)(d:H):Prop:=∃a f,g= .tuple [a.t,.bool f]/\TJ e.N a/\(a.dK=e.s.dK\/a.dK=0)/\d.size=c.size/\(∀b,b<c.size->d.get b=c.get b)/\gF 0 d
def GL(d:List Int):∀a∈gG d,cn a=a/\jI a=true/\∀b,a≠ .agg b:=λa c=>by obtain⟨e,_,rfl⟩:=List.mem_map.1 c;simp
def At.fz{o m:Nat}{h:H}{g l:T}{p:List T}{e:ee}(c:At o m h g l p e)(k:Nat->Prop)(i:∀a,o<=a->a<m->k a):iv (FT h k 3) [dy e.pC,g,l,dy e.dK] e.cs:=
 .cons (fW ..) (.cons ((show oS h 1 g (gG e.iE)from .inr c.ga).ft (d:=1) (GL _) λa b=>i a (c.ba a b).1 (c.ba a b).2.1)
  (.cons (c.gb.ft (λa b=>i a (c.bb a b).1 (c.bb a b).2) (c.el.UI (f:=λn=>sl (gG n)) λq n j=>j.1.ft (d:=0) (GL _) λa b=>i a (j.2 a b).1 (j.2 a b).2.1)) (.cons (fW ..) .nil)))
def Tt{i:VT}{args:List T}{b d:H}{e:List T}{s':ee}{ok:Bool}{V:Nat->Prop}(o:gF 0 b)(a:Nb b d)(l:∀c,V c->b.size<=c)(k:iv (FT d V 3) e s'.cs)(q:TJ i.N s')(n:s'.dK=i.s.dK\/s'.dK=0):xF b (.tuple [.agg e,.bool ok]) d (By i args b):=by
 obtain⟨p,h,j⟩:=FT.tup dq l k ok;refine⟨a.ok.hp,a.ok.sz,λc r m _=> .inl (a.get c m),p,h,s',ok,by rw[j];rfl,q,n,rfl,λg f=>(yt a.ok.hp a.ok.sz f).trans (a.get g f),o.cut a.ok.hp a.ok.sz⟩
def JC:ee:=⟨0,[],[],0⟩
def Cj{d:VT}{c:List T}{a b:H}(f:gF 0 a)(e:Nb a b):xF a (.tuple [.agg [dy 0,dz,dz,dy 0],.bool false]) b (By d c a):=
 Tt (s':=JC) (V:=λ_=>False) f e (λ_ g=>g.elim) (.cons (fW ..) (.cons (iU ..) (.cons (iU ..) (.cons (fW ..) .nil)))) ⟨by simp[JC],by simp[JC],by simp[JC]⟩ (.inr rfl)
structure SeS(c:fP)(s:ee)(N:Nat)(h h':H)(s':ee)(a' b':T)(es':List T)(ver:Nat):Prop where
 tx:At (h.size+1+1+1) h'.size h' a' b' es' s'
 nb:Nb h h'
 hz:h.size+1+1+1<=h'.size
 g2:h'.get h.size=some (dA 2 0 [c.t])
 g3:h'.get (h.size+1)=some (dA 4 ver [.agg [dy s'.pC,a',b',dy s'.dK]])
 g4:h'.get (h.size+1+1)=some (dA 4 0 [.agg [dy 0,dz,dz,dy 0]])
 to:TOk N s.iE.length s'
 ev:s'.dK=s.dK
def NF:(js VT M8 By).Ok Tryz.prog cx 164:=by
 refine p7 (tb:=⟨pt [(206,tZ)],ht [(207,js ICp Nc Im),(208,js R2 M7 JO)]⟩) ew ej (iQ 1182933510117985879039 [] Tryz.func164) (λz a=>10000005) (λi z a dd=>by obtain⟨rfl,_⟩:=dd;simp[Tryz.f164]) ?_;rintro⟨b,d,z,T,a6,bz,bl,S⟩ _ a ⟨rfl,s,c4,ok,tb,bi,w⟩ y bk;simp only at s c4 tb bi w;simp[AM]at bk;obtain⟨cy,J⟩:=bk;have bs:=λJ:H=>s.ga.len (cx:=cx) J Qp _ rfl;have bu:=λJ:H=>s.gb.len (cx:=cx) J Mz _ rfl;rw[aH]at bs;rw[s.el.length]at bu;simp[Tryz.f164,cy,J,bs,bu];generalize v:(((TI.hr a).cons _).cons _).cons _=r;have ea:gF 0 r:=by rw[<-v];exact((ok.hr.cons _).cons _).cons _
 have eF:r.size=a.size+1+1+1:=by rw[<-v];rfl
 have ap:Nb a r:=by rw[<-v];exact⟨((((Nb.refl ok.hr).cons _).cons _).cons _).ok,λb w=>(((((Nb.refl ok.hr).cons _).cons _).cons _).get b w).trans (f9 a b)⟩
 have b7:r.get a.size=some (dA 2 0 [b.t]):=by rw[<-v];simp
 have aN:r.get (a.size+1)=some (dA 4 0 [.agg [dy d.pC,z,T,dy d.dK]]):=by rw[<-v];simp
 have U:r.get (a.size+1+1)=some (dA 4 0 [.agg [dy 0,dz,dz,dy 0]]):=by rw[<-v];simp
 clear v;have cv:∀c,(dT r (a.size+1+1) c).get (a.size+1+1)=some c:=λc=>(dI U c _).trans (aq rfl);refine dW (λM=> ?_) (λM=> ?_)
 ·simp[U,cv,dS];exact Cj ok (ap.put U dq _)
 simp at M;have dv:∀b,bz<=b->b<bl->r.get b=a.get b:=λb _ w=>ap.get b dq;have aA:=s.mono (au _) (au _) dv;simp[aN];refine gY Gq dt ⟨d,z,T,a6⟩ ⟨rfl,⟨.inr aA.ga,.inr aA.gb,aA.el.imp λ_ _ p=>p.1,λe h he an=> ?_⟩,ea,by have:=tb.rl;simp only;omega,by have:=tb.tl;simp only;omega,λl hl=>by have:=(tb.tn l hl).1;omega⟩ ?_
 ·rcases he with rfl|rfl|he
  ·have:=(s.ba h an).2.1;omega
  ·have:=(s.bb h an).2;omega
  ·obtain⟨l,p,k⟩:=s.el.left he;have:=(k h an).2.1;omega
 rintro _ g ⟨a1,n,ZY,rfl,bT,x⟩;simp only at bT;have eD:=x.ok.sz;have b8:=(x.get _ dq).trans b7;have A:=(x.get _ dq).trans aN;have b9:=(x.get _ dq).trans U;have bH:Nb a (dT g (a.size+1) (dA 4 1 [.agg [dy d.pC,a1,n,dy d.dK]])):=(ap.trans x).put A dq _;have ef:=bT.mono (lo':=a.size+1+1+1) (hi':=(dT g (a.size+1) (dA 4 1 [.agg [dy d.pC,a1,n,dy d.dK]])).size) (h':=dT g (a.size+1) (dA 4 1 [.agg [dy d.pC,a1,n,dy d.dK]])) dq dt λb w _=>by rw[dI A,ao dq]
 have eC:gF 0 g:=⟨x.ok.hp,x.ok.low,aw _⟩;have ca:(dT g (a.size+1) (dA 4 1 [.agg [dy d.pC,a1,n,dy d.dK]])).get a.size=_:=(show(dT g (a.size+1) (dA 4 1 [.agg [dy d.pC,a1,n,dy d.dK]])).get a.size=g.get a.size by rw[dI A,ao dq]).trans b8;have cb:(dT g (a.size+1) (dA 4 1 [.agg [dy d.pC,a1,n,dy d.dK]])).get (a.size+1)=_:=(dI A _ _).trans (aq rfl);have aX:(dT g (a.size+1) (dA 4 1 [.agg [dy d.pC,a1,n,dy d.dK]])).get (a.size+1+1)=_:=(show(dT g (a.size+1) (dA 4 1 [.agg [dy d.pC,a1,n,dy d.dK]])).get (a.size+1+1)=g.get (a.size+1+1)by rw[dI A,ao dq]).trans b9;simp[AM,A,dS];generalize dT g (a.size+1) _=eu at*
 refine fh (b.iW.length+1) dq (λO y h'=>∃q G I V R,SeS b d S a h' q G I V R/\dB y 2 (.ptr a.size 0 0 0)/\dB y 3 (.ptr (a.size+1) 0 0 0)/\dB y 4 (.ptr (a.size+1+1) 0 0 0)/\dB y 6 (dy O)) ?_ ?_ dq ?_
 ·rintro O y h' ey cL ⟨q,G,I,V,R,⟨aE,o,di,B,C,f,m,al⟩,E,F,u,K⟩;have D:∀c,(dT h' (a.size+1+1) c).get (a.size+1+1)=some c:=λc=>(dI f c _).trans (aq rfl);have bS:gF 0 h':=⟨o.ok.hp,o.ok.low,aw _⟩;simp[E,F,K,B,C,show(O:Int)<=b.iW.length by omega];refine dW (λM=> ?_) (λM=> ?_)
  ·simp[u,f,D,dS];exact Cj ok (o.put f dq _)
  simp at M;obtain⟨Y,L⟩:∃Y:Nat,q.pC=Y:=⟨q.pC.toNat,dq⟩;have c6:Y<b.iW.length:=dq;have ds:(a.size=h'.size)=False:=du;have bB:(a.size+1=h'.size)=False:=du;have bC:(a.size+1+1=h'.size)=False:=du;have c7:=bS.low;simp[E,F,B,C,L,c6,c7,wi];generalize b.iW[Y]=h at*
  have eB:=o.cons (dA 6 1 [h.t]);have eh:TJ S q:=⟨by have:=m.rl;have:=tb.rl;omega,by have:=m.tl;have:=tb.rl;omega,m.tn⟩;have et:∀c,((dT h' (a.size+1+1) c).cons (dA 6 1 [h.t])).get (a.size+1+1)=some c:=λc=>by rw[dP,ao du];exact D c
  refine dW (λX=> ?_) (λX=> ?_)
  ·have cp:∀c:iN,∀b,a.size+1+1+1<=b->b<h'.size->((dT h' (a.size+1+1) c).cons (dA 6 1 [h.t])).get b=h'.get b:=λc b ec av=>by rw[dP,ao du,dI f,ao dq]
   simp[F,u,C,f,bB,bC,L,D,dS,show a.size+1+1<h'.size by omega];have:=Tt (i:=⟨b,d,z,T,a6,bz,bl,S⟩) (args:=[b.t,AM d z T]) (ok:=true) ok ((o.put f dq (dA 4 1 [.agg [dy q.pC,G,I,dy q.dK]])).cons (dA 6 1 [h.t])) (λb w=>(show a.size<=b from w)) ((aE.mono (au _) (au _) (cp _)).fz (λb=>a.size<=b) λb p _=>by omega) eh (.inl al);rw[L]at this;exact this
  simp at X;have bn:1<=h.op/\h.op<=5:=by unfold vz at X;simpa using X
  have c9:decide ((O:Int)=b.iW.length)=decide (O=b.iW.length):=by rw[decide_eq_decide];omega
  simp[E,K,B,ds,c9];refine dW (λde=> ?_) (λde=> ?_)
  ·simp[u,f,bC,dS,D,show a.size+1+1<h'.size by omega];exact Cj ok ((o.put f dq _).cons _)
  simp[F,C,bB,L];have eo:=aE.mono (h':=h'.cons (dA 6 1 [h.t])) (au _) (au _) λb _ p=>by rw[dP,ao dq]
  refine gY NE dt ⟨h,q,G,I,V,a.size+1+1+1,h'.size,S⟩ ⟨by simp[AM,L],eo,dt,bS.cons _,bn.1,bn.2,⟨rfl,by have:=m.rl;have:=m.tl;simp only;omega,m.tn⟩,by have:=tb.rl;have:=m.rl;simp only;omega,bi⟩ ?_;rintro _ j ⟨Q,a2,ae,Kf,eb,rfl,b6,a7,P,a8⟩;simp only[Yq]at b6 a7 P a8;have eE:=P.sz;have W:∀b,b<a.size+1+1+1->j.get b=h'.get b:=λb p=>(a7 b dq (.inl p)).trans (by rw[dP,ao dq]);have dk:=(W a.size dq).trans B;have N:=(W (a.size+1) dq).trans C;have Z:=(W (a.size+1+1) dq).trans f;have eA:(a.size=j.size)=False:=du;have dm:(a.size+1=j.size)=False:=du;have dn:(a.size+1+1=j.size)=False:=du;have bN:Nb a j:=⟨⟨P.hp,P.low,dq⟩,λb p=>(W b dq).trans (o.get b p)⟩;have ce:∀c,(dT j (a.size+1+1) c).get (a.size+1+1)=some c:=λc=>(dI Z c _).trans (aq rfl);simp[AM,P.low,dS];cases eb with
  |false=>
   simp[u,Z,dn,dS,ce,show a.size+1+1<j.size by omega];exact Cj ok ((bN.put Z dq _).cons _)
  |true=>
   obtain⟨t2,er⟩:=a8 rfl;simp[E,F,u,K,N,dm,dS,cL,show a.size+1<j.size by omega];have e:∀b,b<a.size+1+1+1->b≠a.size+1->((dT j (a.size+1) (dA 4 (R+1) [.agg [dy Q.pC,a2,ae,dy Q.dK]])).cons (dA 4 1 [.agg [dy Q.pC,a2,ae,dy Q.dK]])).get b=j.get b:=λb ec av=>by rw[dP,ao du,dI N,ao av]
   refine⟨Q,a2,ae,Kf,R+1,b6.mono (au _) dt λb p av=> ?_,(bN.put N dq _).cons _,du,(e _ dq dq).trans dk,?_,(e _ dq dq).trans Z,⟨by rw[t2.rl];exact m.rl,by rw[t2.tl];exact m.rl,t2.tn⟩,by rw[er];exact al⟩
   ·rw[dP,ao du,dI N,ao dq]
   ·rw[dP,ao du,dI N,aq rfl]
 ·rintro y h' ⟨q,G,I,V,R,⟨aE,o,di,B,C,f,m,al⟩,E,F,u,K⟩;have D:∀c,(dT h' (a.size+1+1) c).get (a.size+1+1)=some c:=λc=>(dI f c _).trans (aq rfl);have c1:((b.iW.length:Int)+1<=b.iW.length)=False:=du;simp[E,u,K,B,f,D,dS,c1];exact Cj ok (o.put f dq _)
 ·simp;exact⟨d,a1,n,ZY,1,ef,bH,by have:=bH.ok.sz;have:=H.ez aX;omega,ca,cb,aX,⟨rfl,dq,tb.tn⟩,rfl⟩
end
end Go.Proofs.YtmaeadedikngoaaGreatDoor
