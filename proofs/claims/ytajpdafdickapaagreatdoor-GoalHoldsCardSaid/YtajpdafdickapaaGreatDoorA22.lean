/- W07d -/
import Derived.Test.YtajpdafdickapaaGreatDoorA18
import Derived.Test.YtajpdafdickapaaGreatDoorA21
set_option linter.all false
set_option maxRecDepth 100000
set_option maxHeartbeats 8000000
namespace Go.Proofs.YtajpdafdickapaaGreatDoor
noncomputable section
open Go Go.TI Tryz
attribute [-simp] List.map_take List.map_drop List.map_append fw eY eg Bool.not_or Bool.not_and
attribute [simp] fq eZ
section
attribute [-simp] size_cons
structure Vs where
 (i:fR) (s:eG) (a b:T) (es:List T) (lo hi N:Nat)
structure TOk(N r:Nat)(s:eG):Prop where
 rl:s.iY.length=r
 tl:s.kf.length=r
 tn:∀l∈s.kf,Tn N l
def PU(c:Vs)(e:List T)(d:H):Prop:=e=[c.i.t,Ce c.s c.a c.b]/\BT c.lo c.hi d c.a c.b c.es c.s/\c.hi<=d.size/\hU 0 d/\1<=c.i.op/\c.i.op<=5/\TOk c.N c.s.iY.length c.s/\c.s.iY.length<=1000/\c.N<=1000000
def L7(a:Vs)(k:List T)(e:H)(j:T)(c:H):Prop:=∃d f g i h,j= .tuple [Ce d f g,.bool h]/\BT a.lo c.size c f g i d/\(∀b,b<e.size->(b<a.lo\/a.hi<=b)->c.get b=e.get b)/\hU e.size c/\(h=true->TOk a.N a.s.iY.length d/\d.dJ=a.s.dJ)
def BT.mono{g f lo' hi':Nat}{k h':H}{h i:T}{j:List T}{l:eG}(c:BT g f k h i j l)(hl:lo'<=g)(n:f<=hi')(e:∀a,g<=a->a<f->h'.get a=k.get a):BT lo' hi' h' h i j l:=
 ⟨c.ga.mono λa b=>e a (c.ba a b).1 (c.ba a b).2.1,c.gb.mono λa b=>e a (c.bb a b).1 (c.bb a b).2,c.el.imp λm o d=>⟨d.1.mono λa b=>e a (d.2 a b).1 (d.2 a b).2.1,λa b=>⟨by have:=(d.2 a b).1;omega,by have:=(d.2 a b).2.1;omega,(d.2 a b).2.2⟩⟩,λa b=>⟨by have:=(c.ba a b).1;omega,by have:=(c.ba a b).2.1;omega,(c.ba a b).2.2⟩,λa b=>⟨by have:=(c.bb a b).1;omega,by have:=(c.bb a b).2;omega⟩⟩
def BT.same{h g:Nat}{f:H}{c d:T}{e:List T}{b s':eG}(a:BT h g f c d e b)(i:s'.iY=b.iY)(j:s'.kf=b.kf):BT h g f c d e s':=⟨by rw[i];exact a.ga,a.gb,by rw[j];exact a.el,a.ba,a.bb⟩
def BT.zero(e d:Nat)(c:H):BT e d c dD dD [] ⟨0,[],[],0⟩:=⟨Gr.nil _ _,Gr.nil _ _,.nil,λb a=>by simp at a,λb a=>by simp at a⟩
def Qy:(jI Vs PU L7).Ok prog cx 220:=by
 refine jx (tb:=⟨pt [(106,oH),(246,yz.jA),(245,IB.jA),(247,FQ.jA)],ht [(95,jI IUn PT Kw)]⟩) iL iB (iQ 9904163146420522906957187071 [(20,[(2,4),(2,6),(2,7),(2,8)]),(10,[(2,4),(2,6),(2,7),(2,8),(2,10),(2,12),(2,13),(2,14)]),(22,[(1,11),(3,11),(5,11),(7,11),(5,13),(7,13)])] func220) (λ_ _=>100) (λi a g fl=>by obtain⟨rfl,_⟩:=fl;simp[f220]) ?_;rintro⟨i,j,a,b,R,eb,ff,N⟩ _ g ⟨rfl,h,fe,c4,fo,fs,w,hr,e8⟩ l di;simp only at h fe fo fs w hr e8;simp[Ce]at di;obtain⟨e6,e7⟩:=di;simp[f220,e6,e7,vx];generalize S:(((TI.hr g).cons _).cons _).cons _=q;have F:hU 0 q:=by rw[<-S];exact((c4.hr.cons _).cons _).cons _
 have gv:q.size=g.size+1+1+1:=by rw[<-S];rfl
 have av:Nb g q:=by rw[<-S];exact⟨((((Nb.refl c4.hr).cons _).cons _).cons _).ok,λd f=>(((((Nb.refl c4.hr).cons _).cons _).cons _).get d f).trans (gU g d)⟩
 have P:q.get g.size=some (dE 6 0 [i.t]):=by rw[<-S];simp
 have Q:q.get (g.size+1)=some (dE 4 0 [.agg [Z j.pC,a,b,Z j.dJ]]):=by rw[<-S];simp
 have aA:q.get (g.size+1+1)=some (dE 4 0 [.agg [Z 0,dD,dD,Z 0]]):=by rw[<-S];simp
 clear S;have ea:=h.ga.len (cx:=cx) q TL _ rfl;rw[aG]at ea;have e5:∀y,(dY q (g.size+1+1) y).get (g.size+1+1)=some y:=λy=>(dN aA y _).trans (aq rfl);have gM:=CV i;refine fk (jd i).length J (λV l h'=>q=h'/\dF l 2 (.ptr g.size 0 0 0)/\dF l 3 (.ptr (g.size+1) 0 0 0)/\dF l 4 (.ptr (g.size+1+1) 0 0 0)/\dF l 6 (sl (gG (jd i)))/\dF l 7 (Z V)/\∀E∈(jd i).take V,0<=E/\E<j.iY.length) ?_ ?_ J dy
 ·rintro V l _ ap e9 ⟨rfl,r,s,A,bu,bB,D⟩;have fv:(jd i).take (V+1)=(jd i).take V++[(jd i)[V]]:=aR ap;simp[s,bu,bB,ap,Q,ea];generalize(jd i)[V]=E at*
  refine ee (λbi=>?_) (λbi=>?_)
  ·simp[A,aA,e5,dX];refine⟨⟨0,[],[],0⟩,_,_,_,false,rfl,BT.zero _ _ _,λd f _=>?_,⟨(F.put _ _).out g|>.hp,(F.put _ _).out g|>.low,dz⟩,dy⟩;rw[fW,dN aA,ao J];exact av.get d f
  ·simp at bi;simp[r,s,A,bu,bB,e9,fv];intro x cy;rcases cy with cy|rfl
   ·exact D x cy
   ·omega
 ·rintro l _ ⟨rfl,r,s,A,bu,bB,D⟩;rw[aK]at D;simp[r,bu,bB,P];have bX:pK q 1 a (gG j.iY):= .inr (h.ga.mono λd f=>av.get d (by have:=(h.ba d f).2.1;omega));have b6:pK q 1 b R:= .inr (h.gb.mono λd f=>av.get d (by have:=(h.bb d f).2;omega));have bT:∀E:Int,0<=E->E<j.iY.length->∃u e,j.kf[E.toNat]? =some u/\R[E.toNat]? =some e/\pK q 1 e (gG u)/\Tn N u:=λE r0 r1=>by
   have ap:E.toNat<j.kf.length:=by have:=w.tl;omega
   have⟨e,bN,k⟩:=h.el.get (az ap);exact⟨_,e,az ap,bN,k.1.mono λd f=>av.get d (by have:=(k.2 d f).2.1;omega),w.tn _ (aD ap)⟩
  refine kQ (λl C=>∃(v:Int) (eC:T) (Y:T) (X:List Int),F1 eC/\Nb q C/\pK C 1 Y (gG X)/\Tn N X/\iP i.a j.iY.length=true/\dF l 2 (.ptr g.size 0 0 0)/\dF l 3 (.ptr (g.size+1) 0 0 0)/\dF l 4 (.ptr (g.size+1+1) 0 0 0)/\dF l 8 (Z v)/\dF l 9 eC/\dF l 10 Y) (λbi=>?_) (λbi=>?_) ?_
  ·simp[r,s,A,P,Q,aA,dX,mr,F.hp,gv];refine⟨{j with pC:=i.a},a,b,R,true,rfl,(h.mono (au _) dz λd _ f=>?_).same rfl rfl,λd f _=>?_,⟨(((F.put _ _).put _ _).out g).hp,(((F.put _ _).put _ _).out g).low,dz⟩,λ_=>⟨⟨rfl,w.tl,w.tn⟩,rfl⟩⟩
   all_goals (rw[fW,mr (by simpa using F.hp) dz,ao J,dN Q,ao J];exact av.get d J)
  ·have gE:¬i.op=5:=by simpa using bi
   have f:i.op=1\/i.op=2\/i.op=3\/i.op=4:=J;rcases f with e|e|e|e
   ·have I:=D i.a (by unfold jd;simp[e]);simp[r,s,A,P,e];exact⟨_,_,⟨_,rfl⟩,Nb.refl F,_,[],.inr (Gr.nil _ _),Tn.nil N,eQ.2 ⟨I.1,J⟩,rfl,rfl,rfl⟩
   ·have I:=D i.a (by unfold jd;simp[e]);have B:=D i.b (by unfold jd;simp[e]);have⟨p1,aE,aN⟩:=bX.idx (te:=H5) rfl rfl (i:=i.b.toNat) (x:= Z j.iY[i.b.toNat]) (by simp[show i.b.toNat<j.iY.length by omega]) rfl;have⟨u,Y,hl,bn,O,L⟩:=bT i.b B.1 B.2;have⟨p2,aX,a6⟩:=b6.idx (te:=pS) rfl rfl bn O.ir.2;simp[r,s,A,P,Q,e,em B.1,aE,aN,aX,a6];exact⟨_,_,⟨_,rfl⟩,Nb.refl F,_,u,O,L,eQ.2 ⟨I.1,J⟩,rfl,rfl,rfl⟩
   ·have I:=D i.a (by unfold jd;simp[e]);have B:=D i.b (by unfold jd;simp[e]);have⟨p1,aE,aN⟩:=bX.idx (te:=H5) rfl rfl (i:=i.b.toNat) (x:= Z j.iY[i.b.toNat]) (by simp[show i.b.toNat<j.iY.length by omega]) rfl;have⟨u,Y,hl,bn,O,L⟩:=bT i.b B.1 B.2;have⟨p2,aX,a6⟩:=b6.idx (te:=pS) rfl rfl bn O.ir.2;obtain⟨_,⟨o,rfl⟩,ca⟩:=yz.use i.n trivial;obtain⟨_,⟨gm,fE,rfl⟩,a7⟩:=IB.use (o,j.iY[i.b.toNat]) trivial;simp only at a7;simp[r,s,A,P,Q,e,em B.1,aE,aN,aX,a6,ca,a7];exact⟨_,_,⟨_,rfl⟩,Nb.refl F,_,u,O,L,eQ.2 ⟨I.1,J⟩,rfl,rfl,rfl⟩
   ·have I:=D i.a (by unfold jd;simp[e]);have B:=D i.b (by unfold jd;simp[e]);have cp:=D i.c (by unfold jd;simp[e]);have⟨p1,aE,aN⟩:=bX.idx (te:=H5) rfl rfl (i:=i.b.toNat) (x:= Z j.iY[i.b.toNat]) (by simp[show i.b.toNat<j.iY.length by omega]) rfl;have⟨p3,eI,eL⟩:=bX.idx (te:=H5) rfl rfl (i:=i.c.toNat) (x:= Z j.iY[i.c.toNat]) (by simp[show i.c.toNat<j.iY.length by omega]) rfl;have⟨u,Y,hl,bn,O,L⟩:=bT i.b B.1 B.2;have⟨l2,gn,gI,fA,eh,eB⟩:=bT i.c cp.1 cp.2;have⟨p2,aX,a6⟩:=b6.idx (te:=pS) rfl rfl bn O.ir.2;have⟨p4,eM,eN⟩:=b6.idx (te:=pS) rfl rfl fA eh.ir.2;obtain⟨_,⟨o,rfl⟩,ca⟩:=yz.use i.n trivial;obtain⟨_,⟨gm,fE,rfl⟩,a7⟩:=FQ.use (o,j.iY[i.b.toNat],j.iY[i.c.toNat]) trivial;simp only at a7;simp[r,s,P,Q,e,em B.1,em cp.1,aE,aN,aX,a6,eI,eL,eM,eN,ca,a7];refine iy IA dy ⟨u,l2,Y,gn⟩ ⟨rfl,O,eh,by have:=L.1;have:=eB.1;simp only;omega,F⟩ ?_;rintro E C ⟨gj,K,_⟩;simp[r,s,A];exact⟨_,_,⟨_,rfl⟩,K,_,_,gj,L.union eB,eQ.2 ⟨I.1,J⟩,rfl,rfl,rfl⟩
  ·rintro l C ⟨v,_,Y,X,⟨fL,rfl⟩,K,gi,L,I,r,s,A,dd,de,c9⟩;have b7:=(K.get _ J).trans P;have b8:=(K.get _ J).trans Q;have c7:=(K.get _ J).trans aA;have hh:=K.ok.sz;have⟨cb,p,b9,⟨gV,gz,gA⟩,hf,bs,M⟩:=jV (cx:=cx) (⟨K.ok.hp,K.ok.low,aw _⟩:hU 0 C) jQ rfl mz jQ rfl rfl dy gi.jw (by simp[T.cells]) (by have:=L.1;simp;omega);have U:=eQ.1 I;have W:Nb g p:=⟨⟨M.hp,M.low,J⟩,λd f=>(bs d J).trans ((K.get d J).trans (av.get d f))⟩;have gw:=(bs _ J).trans b7;have eF:=(bs _ J).trans b8;have eH:=(bs _ J).trans c7;have⟨m,gy,gZ,gB,hb,a8,dk,al,dm⟩:=(h.ga.mono (h':=p) λd f=>W.get d (by have:=(h.ba d f).2.1;omega)).B0 (te:=H5) rfl (i:=i.a.toNat) (by simpa using U.2);have⟨z,eO,ha,gD,hd,an,fb,bH,dn⟩:=(h.gb.mono (h':=p) λd f=>W.get d (by have:=(h.bb d f).2;omega)).B0 (te:=pS) rfl (i:=i.a.toNat) (by rw[h.el.length,w.tl];exact U.2);simp at b9;have bS:=(h.ba m a8).2.2;have dv:¬m=z:=λk=>bS (by rw[k];exact an);have ec:=H.fa al;have fC:=H.fa bH;have ef:=(h.ba m a8);have gS:=(h.bb z an);have gP:=ef.1;have gQ:=ef.2.1;have⟨e,bN,gg⟩:=h.el.get (az (show i.a.toNat<j.kf.length by rw[w.tl];exact U.2));have ey:=Km (x:= .arr C.size cb 0 X.length false) gg.1.na;have fB:R[i.a.toNat]'(by rw[h.el.length,w.tl];exact U.2)=e:=by rw[az (by rw[h.el.length,w.tl];exact U.2)]at bN;simpa using bN
   rw[fB]at dn;have eA:∀x:Int,mK (Z x) 0 [Z v]=some (Z v):=λx=>rfl;have c6:∀d,d<C.size->fh (C.cons (dE 1 0 [])) p d=true:=λd f=>fD ((bs d f).trans (by rw[dT,ao J]));have eo:=c6 g.size J;have er:=c6 (g.size+1) J;have et:=nl al (show g.size≠m by omega);have eu:=nl al (show g.size+1≠m by omega);have gk:=nl al (show z≠m by omega);have eP:(g.size+1=m)=False:=dz;have eR:(g.size+1=z)=False:=dz;have eS:(g.size+1+1=m)=False:=dz;have eU:(g.size+1+1=z)=False:=dz;have eV:(z=m)=False:=dz;have l1:g.size+1<p.size:=J;have l2:g.size+1+1<p.size:=J;have ds:b= .arr z eO 0 R.length false:=by
    have⟨_,_,_,_,k,e⟩:=(h.gb.mono (h':=p) λd f=>W.get d (by have:=(h.bb d f).2;omega)).box an;rw[bH]at k;simp at k;rw[e,k.1]
   have fi:i.a.toNat<R.length:=by rw[h.el.length,w.tl];exact U.2
   simp at dm;simp[r,s,A,dd,de,c9,b7,b8,b9,em U.1,dk,ds,fi,al,bH,eF,eH,dm,dn,eA,ey,eo,er,et,eu,mr,M.hp,ec,fC,eP,eR,eS,eU,eV,l1,l2,dX,oN];clear b9 c6 eo er et eu gk b7 b8 c7 r s A dd de c9 ey eA dk fb;have eX:=h.ga.mono (h':=p) λd f=>W.get d (by have:=(h.ba d f).2.1;omega);have e4:=h.gb.mono (h':=p) λd f=>W.get d (by have:=(h.bb d f).2;omega);rw[<-ds];generalize bC:dY (dY (dY (dY p m _) z _) (g.size+1) _) (g.size+1+1) _=ae;have hg:ae.size=p.size:=by rw[<-bC];simp
   have KH:hU 0 ae:=by rw[<-bC];exact(((M.put _ _).put _ _).put _ _).put _ _
   have G:∀d,ae.get d=if d=g.size+1+1 then _ else if d=g.size+1 then _ else if d=z then _ else if d=m then _ else p.get d:=λd=>by
    rw[<-bC,mr (by simpa using M.hp) dz,mr (by simpa using M.hp) dz,mr (by simpa using M.hp) dz,mr M.hp ec]
   clear bC;have Go:∀d,d≠g.size+1+1->d≠g.size+1->d≠z->d≠m->ae.get d=p.get d:=λd fS fX fY gd=>by rw[G,ao fS,ao fX,ao fY,ao gd]
   have eW:=eX.setAt a8 al i.a.toNat (Z v) (h':=ae) (by rw[G,ao J,ao J,ao J,aq rfl]);have e0:=e4.setAt an bH i.a.toNat (.arr C.size cb 0 X.length false) (h':=ae) (by rw[G,ao J,ao J,aq rfl]);have eD:∀d,dS a=some d->d=m:=λd f=>by rw[a8]at f;simpa using f.symm
   have eE:∀d,dS b=some d->d=z:=λd f=>by rw[an]at f;simpa using f.symm
   refine⟨⟨IntKind.i64.wrap (j.pC+1),j.iY.set i.a.toNat v,j.kf.set i.a.toNat X,j.dJ⟩,a,b,R.set i.a.toNat (.arr C.size cb 0 X.length false),fL,rfl,⟨?_,?_,?_,λd f=>?_,λd f=>?_⟩,λd f hr=>?_,⟨(KH.out g).hp,(KH.out g).low,dz⟩,λ_=>⟨⟨dy,by simp;exact w.tl,λu hl=>?_⟩,rfl⟩⟩
   ·have:=eW.out g;simpa[gG,bA]using this
   ·exact e0.out g
   ·refine h.el.set i.a.toNat ⟨.inr ?_,λd f=>?_⟩ λe u k=>⟨k.1.mono λd f=>?_,λd f=>?_⟩
    ·have:=Gr.new ((Go C.size J J J J).trans gA);simpa using this.out g
    ·simp at f;subst f;exact⟨by show eb<=_;omega,dz,λk=>by have:=eD _ k;omega,λk=>by have:=eE _ k;omega⟩
    ·have⟨bS,dv,cL,c1⟩:=k.2 d f;rw[fW,Go d J J (λk=>c1 (by rw[k];exact an)) (λk=>cL (by rw[k];exact a8))];exact W.get d J
    ·have⟨bS,dv,cL,c1⟩:=k.2 d f;exact⟨bS,dz,cL,c1⟩
   ·have:=h.ba d f;exact⟨this.1,dz,this.2.2⟩
   ·have:=h.bb d f;exact⟨this.1,dz⟩
   ·have hr:d<eb\/ff<=d:=hr;rw[fW,Go d J J J J];exact W.get d f
   ·rcases cA hl with k|rfl
    ·exact w.tn u k
    ·exact L
structure Zk where
 (c:ge) (s:eG) (a b:T) (es:List T) (lo hi N:Nat)
structure WP(N:Nat)(s:eG):Prop where
 rl:s.iY.length<=1000
 tl:s.kf.length<=1000
 tn:∀l∈s.kf,Tn N l
def PV(d:Zk)(f:List T)(e:H):Prop:=f=[d.c.t,Ce d.s d.a d.b]/\BT d.lo d.hi e d.a d.b d.es d.s/\d.hi<=e.size/\hU 0 e/\WP d.N d.s/\d.N<=1000000/\d.c.jm.length<=10000001
def Dc(e:Zk)(h:List T)(c:H)(g:T)(d:H):Prop:=∃a f,g= .tuple [a.t,.bool f]/\WP e.N a/\(a.dJ=e.s.dJ\/a.dJ=0)/\d.size=c.size/\(∀b,b<c.size->d.get b=c.get b)/\hU 0 d
def I8(d:List Int):∀a∈gG d,cn a=a/\j4 a=true/\∀b,a≠ .agg b:=λa c=>by obtain⟨e,_,rfl⟩:=List.mem_map.1 c;simp
def BT.fz{o m:Nat}{h:H}{g l:T}{p:List T}{e:eG}(c:BT o m h g l p e)(k:Nat->Prop)(i:∀a,o<=a->a<m->k a):iF (FT h k 3) [Z e.pC,g,l,Z e.dJ] e.cs:=
 .cons (fV ..) (.cons ((show pK h 1 g (gG e.iY)from .inr c.ga).ft (d:=1) (I8 _) λa b=>i a (c.ba a b).1 (c.ba a b).2.1)
  (.cons (c.gb.ft (λa b=>i a (c.bb a b).1 (c.bb a b).2) (c.el.X9 (f:=λn=>sl (gG n)) λq n j=>j.1.ft (d:=0) (I8 _) λa b=>i a (j.2 a b).1 (j.2 a b).2.1)) (.cons (fV ..) .nil)))
def WE{i:Zk}{args:List T}{b d:H}{e:List T}{s':eG}{ok:Bool}{V:Nat->Prop}(o:hU 0 b)(a:Nb b d)(l:∀c,V c->b.size<=c)(k:iF (FT d V 3) e s'.cs)(q:WP i.N s')(n:s'.dJ=i.s.dJ\/s'.dJ=0):yT b (.tuple [.agg e,.bool ok]) d (Dc i args b):=by
 have⟨p,h,j⟩:=FT.tup J l k ok;refine⟨a.ok.hp,a.ok.sz,λc r m _=> .inl (a.get c m),p,h,s',ok,by rw[j];rfl,q,n,rfl,λg f=>(An a.ok.hp a.ok.sz f).trans (a.get g f),o.cut a.ok.hp a.ok.sz⟩
def LV:eG:=⟨0,[],[],0⟩
def D4{d:Zk}{c:List T}{a b:H}(f:hU 0 a)(e:Nb a b):yT a (.tuple [.agg [Z 0,dD,dD,Z 0],.bool false]) b (Dc d c a):=
 WE (s':=LV) (V:=λ_=>False) f e (λ_ g=>g.elim) (.cons (fV ..) (.cons (jh ..) (.cons (jh ..) (.cons (fV ..) .nil)))) ⟨by simp[LV],by simp[LV],by simp[LV]⟩ (.inr rfl)
structure SeS(c:ge)(s:eG)(N:Nat)(h h':H)(s':eG)(a' b':T)(es':List T)(ver:Nat):Prop where
 tx:BT (h.size+1+1+1) h'.size h' a' b' es' s'
 nb:Nb h h'
 hz:h.size+1+1+1<=h'.size
 g2:h'.get h.size=some (dE 2 0 [c.t])
 g3:h'.get (h.size+1)=some (dE 4 ver [.agg [Z s'.pC,a',b',Z s'.dJ]])
 g4:h'.get (h.size+1+1)=some (dE 4 0 [.agg [Z 0,dD,dD,Z 0]])
 to:TOk N s.iY.length s'
 ev:s'.dJ=s.dJ
def Qz:(jI Zk PV Dc).Ok prog cx 177:=by
 refine rH (tb:=⟨pt [(218,xl)],ht [(219,jI ICp PZ Kz),(220,jI Vs PU L7)]⟩) iL iB (iQ 1182933510117985879039 [] func177) (λA a=>10000005) (λi A a ds=>by obtain⟨rfl,_⟩:=ds;simp[f177]) ?_;rintro⟨b,d,A,V,a8,bS,bB,U⟩ _ a ⟨rfl,u,di,ok,tb,bs,x⟩ z bu;simp only at u di tb bs x;simp[Ce]at bu;obtain⟨c9,L⟩:=bu;have bH:=λL:H=>u.ga.len (cx:=cx) L TL _ rfl;have bN:=λL:H=>u.gb.len (cx:=cx) L Kc _ rfl;rw[aG]at bH;rw[u.el.length]at bN;simp[f177,c9,L,bH,bN];generalize w:(((TI.hr a).cons _).cons _).cons _=s;have er:hU 0 s:=by rw[<-w];exact((ok.hr.cons _).cons _).cons _
 have eO:s.size=a.size+1+1+1:=by rw[<-w];rfl
 have aA:Nb a s:=by rw[<-w];exact⟨((((Nb.refl ok.hr).cons _).cons _).cons _).ok,λb x=>(((((Nb.refl ok.hr).cons _).cons _).cons _).get b x).trans (gU a b)⟩
 have cb:s.get a.size=some (dE 2 0 [b.t]):=by rw[<-w];simp
 have a6:s.get (a.size+1)=some (dE 4 0 [.agg [Z d.pC,A,V,Z d.dJ]]):=by rw[<-w];simp
 have W:s.get (a.size+1+1)=some (dE 4 0 [.agg [Z 0,dD,dD,Z 0]]):=by rw[<-w];simp
 clear w;have c7:∀c,(dY s (a.size+1+1) c).get (a.size+1+1)=some c:=λc=>(dN W c _).trans (aq rfl);refine ee (λO=>?_) (λO=>?_)
 ·simp[W,c7,dX];exact D4 ok (aA.put W J _)
 simp at O;have eo:∀b,bS<=b->b<bB->s.get b=a.get b:=λb _ x=>aA.get b J;have aN:=u.mono (au _) (au _) eo;simp[a6];refine iy IM dy ⟨d,A,V,a8⟩ ⟨rfl,⟨.inr aN.ga,.inr aN.gb,aN.el.imp λ_ _ q=>q.1,λe h he av=>?_⟩,er,by have:=tb.rl;simp only;omega,by have:=tb.tl;simp only;omega,λl hl=>by have:=(tb.tn l hl).1;omega⟩ ?_
 ·rcases he with rfl|rfl|he
  ·have:=(u.ba h av).2.1;omega
  ·have:=(u.bb h av).2;omega
  ·have⟨l,q,k⟩:=u.el.left he;have:=(k h av).2.1;omega
 rintro _ g ⟨a1,o,es1,rfl,b9,y⟩;simp only at b9;have eM:=y.ok.sz;have cp:=(y.get _ J).trans cb;have B:=(y.get _ J).trans a6;have cy:=(y.get _ J).trans W;have b6:Nb a (dY g (a.size+1) (dE 4 1 [.agg [Z d.pC,a1,o,Z d.dJ]])):=(aA.trans y).put B J _;have ey:=b9.mono (lo':=a.size+1+1+1) (hi':=(dY g (a.size+1) (dE 4 1 [.agg [Z d.pC,a1,o,Z d.dJ]])).size) (h':=dY g (a.size+1) (dE 4 1 [.agg [Z d.pC,a1,o,Z d.dJ]])) J dy λb x _=>by rw[dN B,ao J]
 have eL:hU 0 g:=⟨y.ok.hp,y.ok.low,aw _⟩;have cL:(dY g (a.size+1) (dE 4 1 [.agg [Z d.pC,a1,o,Z d.dJ]])).get a.size=_:=(show(dY g (a.size+1) (dE 4 1 [.agg [Z d.pC,a1,o,Z d.dJ]])).get a.size=g.get a.size by rw[dN B,ao J]).trans cp;have c1:(dY g (a.size+1) (dE 4 1 [.agg [Z d.pC,a1,o,Z d.dJ]])).get (a.size+1)=_:=(dN B _ _).trans (aq rfl);have a7:(dY g (a.size+1) (dE 4 1 [.agg [Z d.pC,a1,o,Z d.dJ]])).get (a.size+1+1)=_:=(show(dY g (a.size+1) (dE 4 1 [.agg [Z d.pC,a1,o,Z d.dJ]])).get (a.size+1+1)=g.get (a.size+1+1)by rw[dN B,ao J]).trans cy;simp[Ce,B,dX];generalize dY g (a.size+1) _=eE at*
 refine fk (b.jm.length+1) J (λQ z h'=>∃r I K X T,SeS b d U a h' r I K X T/\dF z 2 (.ptr a.size 0 0 0)/\dF z 3 (.ptr (a.size+1) 0 0 0)/\dF z 4 (.ptr (a.size+1+1) 0 0 0)/\dF z 6 (Z Q)) ?_ ?_ J ?_
 ·rintro Q z h' eF dd ⟨r,I,K,X,T,⟨aX,p,ea,C,D,f,n,ap⟩,F,G,v,M⟩;have E:∀c,(dY h' (a.size+1+1) c).get (a.size+1+1)=some c:=λc=>(dN f c _).trans (aq rfl);have b8:hU 0 h':=⟨p.ok.hp,p.ok.low,aw _⟩;simp[F,G,M,C,D,show(Q:Int)<=b.jm.length by omega];refine ee (λO=>?_) (λO=>?_)
  ·simp[v,f,E,dX];exact D4 ok (p.put f J _)
  simp at O;have⟨j,N⟩:∃j:Nat,r.pC=j:=⟨r.pC.toNat,J⟩;have dk:j<b.jm.length:=J;have eh:(a.size=h'.size)=False:=dz;have bT:(a.size+1=h'.size)=False:=dz;have bX:(a.size+1+1=h'.size)=False:=dz;have dm:=b8.low;simp[F,G,C,D,N,dk,dm,xL];generalize b.jm[j]=h at*
  have eI:=p.cons (dE 6 1 [h.t]);have eA:WP U r:=⟨by have:=n.rl;have:=tb.rl;omega,by have:=n.tl;have:=tb.rl;omega,n.tn⟩;have eD:∀c,((dY h' (a.size+1+1) c).cons (dE 6 1 [h.t])).get (a.size+1+1)=some c:=λc=>by rw[dT,ao dz];exact E c
  refine ee (λae=>?_) (λae=>?_)
  ·have c6:∀c:iX,∀b,a.size+1+1+1<=b->b<h'.size->((dY h' (a.size+1+1) c).cons (dE 6 1 [h.t])).get b=h'.get b:=λc b eu aE=>by rw[dT,ao dz,dN f,ao J]
   simp[G,v,D,f,bT,bX,N,E,dX,show a.size+1+1<h'.size by omega];have:=WE (i:=⟨b,d,A,V,a8,bS,bB,U⟩) (args:=[b.t,Ce d A V]) (ok:=true) ok ((p.put f J (dE 4 1 [.agg [Z r.pC,I,K,Z r.dJ]])).cons (dE 6 1 [h.t])) (λb x=>(show a.size<=b from x)) ((aX.mono (au _) (au _) (c6 _)).fz (λb=>a.size<=b) λb q _=>by omega) eA (.inl ap);rw[N]at this;exact this
  simp at ae;have bC:1<=h.op/\h.op<=5:=by unfold xe at ae;simpa using ae
  have dn:decide ((Q:Int)=b.jm.length)=decide (Q=b.jm.length):=by rw[decide_eq_decide];omega
  simp[F,M,C,eh,dn];refine ee (λdv=>?_) (λdv=>?_)
  ·simp[v,f,bX,dX,E,show a.size+1+1<h'.size by omega];exact D4 ok ((p.put f J _).cons _)
  simp[G,D,bT,N];have eB:=aX.mono (h':=h'.cons (dE 6 1 [h.t])) (au _) (au _) λb _ q=>by rw[dT,ao J]
  refine iy Qy dy ⟨h,r,I,K,X,a.size+1+1+1,h'.size,U⟩ ⟨by simp[Ce,N],eB,dy,b8.cons _,bC.1,bC.2,⟨rfl,by have:=n.rl;have:=n.tl;simp only;omega,n.tn⟩,by have:=tb.rl;have:=n.rl;simp only;omega,bs⟩ ?_;rintro _ m ⟨S,a2,an,Ey,et,rfl,ca,bi,R,bn⟩;simp only[aby]at ca bi R bn;have eN:=R.sz;have Y:∀b,b<a.size+1+1+1->m.get b=h'.get b:=λb q=>(bi b J (.inl q)).trans (by rw[dT,ao J]);have eb:=(Y a.size J).trans C;have P:=(Y (a.size+1) J).trans D;have al:=(Y (a.size+1+1) J).trans f;have eH:(a.size=m.size)=False:=dz;have ec:(a.size+1=m.size)=False:=dz;have ef:(a.size+1+1=m.size)=False:=dz;have b7:Nb a m:=⟨⟨R.hp,R.low,J⟩,λb q=>(Y b J).trans (p.get b q)⟩;have c4:∀c,(dY m (a.size+1+1) c).get (a.size+1+1)=some c:=λc=>(dN al c _).trans (aq rfl);simp[Ce,R.low,dX];cases et with
  |false=>
   simp[v,al,ef,dX,c4,show a.size+1+1<m.size by omega];exact D4 ok ((b7.put al J _).cons _)
  |true=>
   have⟨t2,eC⟩:=bn rfl;simp[F,G,v,M,P,ec,dX,dd,show a.size+1<m.size by omega];have e:∀b,b<a.size+1+1+1->b≠a.size+1->((dY m (a.size+1) (dE 4 (T+1) [.agg [Z S.pC,a2,an,Z S.dJ]])).cons (dE 4 1 [.agg [Z S.pC,a2,an,Z S.dJ]])).get b=m.get b:=λb eu aE=>by rw[dT,ao dz,dN P,ao aE]
   refine⟨S,a2,an,Ey,T+1,ca.mono (au _) dy λb q aE=>?_,(b7.put P J _).cons _,dz,(e _ J J).trans eb,?_,(e _ J J).trans al,⟨by rw[t2.rl];exact n.rl,by rw[t2.tl];exact n.rl,t2.tn⟩,by rw[eC];exact ap⟩
   ·rw[dT,ao dz,dN P,ao J]
   ·rw[dT,ao dz,dN P,aq rfl]
 ·rintro z h' ⟨r,I,K,X,T,⟨aX,p,ea,C,D,f,n,ap⟩,F,G,v,M⟩;have E:∀c,(dY h' (a.size+1+1) c).get (a.size+1+1)=some c:=λc=>(dN f c _).trans (aq rfl);have de:((b.jm.length:Int)+1<=b.jm.length)=False:=dz;simp[F,v,M,C,f,E,dX,de];exact D4 ok (p.put f J _)
 ·simp;exact⟨d,a1,o,es1,1,ey,b6,by have:=b6.ok.sz;have:=H.fa a7;omega,cL,c1,a7,⟨rfl,J,tb.tn⟩,rfl⟩
def xG:List Int:=[3,3,4,4,5,6,7,8,9,10,11,12,13,14,15,16,18,19,20,21,22,23,2]
def mY(a:Int):Int:=if a<6\/28<a then 0 else xG.getD (a-6).toNat 0
def zo:fP:=⟨Int,λa=>[Z a],λa=>True,λa=> Z (mY a),λa c b=>by simp at b;rw[b]⟩
def QQ:zo.Ok prog cx 202:=by
 refine fM [] (iQ 1037 [] func202) (λl=>1) (by simp[zo]) ?_;rintro(b:Int) m n f;simp[zo]at f|-;by_cases h:b<6\/28<b
 ·have d:mY b=0:=by unfold mY;rw[aq h]
  rcases h with h|h<;>simp[f202,f,h,d]
 ·have⟨a,i⟩:∃a:Nat,b=(a:Int)+6:=⟨(b-6).toNat,J⟩;subst i;have g:a<23:=J;have⟨e,d⟩:∃e,xG[a]? =some e:=⟨_,az (show a<xG.length from g)⟩;have c:(xG.map (T.int .i64))[a]? =some (Z e):=by rw[aW,d];rfl
  have j:mY ((a:Int)+6)=e:=by
   unfold mY;rw[ao h,show((a:Int)+6-6).toNat=a by omega];simp[List.getD,d]
  have k:binop .sub (Z ((a:Int)+6)) (Z 6)=some (Z (a:Int)):=by rw[kx J J];congr 2;omega
  simp only[xG,aP,bJ]at c;have⟨_,c⟩:=List.getElem?_eq_some_iff.1 c;simp[f202,f,show¬(a:Int)+6<6 by omega,show¬(28:Int)<(a:Int)+6 by omega,k,g,c,j]
def Vb{b:fy}(ht:b.p 202=some zo)(a:Int):rl prog cx b 202 [Z a]=some (Z (mY a)):=gu ht QQ a trivial
structure Zo(c:jU)(s:iO):Prop where
 v:R1 c
 f:lA c.ez s.fj=true
 cl:s.cells.length=c.ez.cells.length
 fu:s.d8.length=c.ez.d8.length
 th:s.dH.length=c.dH.length
 t:∀(i:Nat) (t:eG) (x:ge),s.dH[i]? =some t->c.dH[i]? =some x->0<=t.pC/\t.pC<x.jm.length/\t.iY.length=x.iY/\t.kf.length=x.iY
def Ju{a:jU}(b:R1 a):a.ez.gJ.length<=2/\a.dH.length<=4:=by
 have:=b.1;unfold ka sX at this;simp only[ax,aI]at this;have c:=b.2.1;omega
def IJ:oa prog cx 201 (λh:jU×iO=>[h.1.t,h.2.t]) (λh=>∀a∈h.1.dH,a.jm.length<=10000001) (λh=>Or (Zo h.1 h.2)):=by
 refine jk [(88,xw.jA),(67,tc)] (iQ 158456325028530997355645763711 [] func201) (λ_=>100) (λh b g=>by simp at g;exact aC (jU.inj g.1) (iO.inj g.2)) ?_;rintro⟨f,l⟩ x m F;replace x:∀a∈f.dH,a.jm.length<=10000001:=x;simp at F;obtain⟨D,E⟩:=F;obtain⟨_,⟨b,rfl,N⟩,C⟩:=xw.use f x;cases b with
 |false=>simp[f201,D,E,C]
 |true=>
  have G:=N rfl;have⟨X,Y⟩:=Ju G;simp[f201,D,E,C,vy,show f.ez.gJ.length<=1099511627776 by omega];refine ee (λB=>?_) (λB=>?_)
  ·simp
  simp only[bM,cd,aI]at B;obtain⟨⟨⟨R,U⟩,V⟩,W⟩:=B;simp;generalize q:(hE.cons _).cons _=w;have Q:hU 2 w:=by rw[<-q];exact⟨dy,dy,dy⟩
  have j:w.get 0=some (dE 7 0 [f.t]):=by rw[<-q];simp
  have n:w.get 1=some (dE 7 0 [l.t]):=by rw[<-q];simp
  clear q;refine fk f.dH.length J (λe m g=>hU 2 g/\g.get 0=some (dE 7 0 [f.t])/\g.get 1=some (dE 7 0 [l.t])/\(∀(d:Nat) (c:eG) (a:ge),d<e->l.dH[d]? =some c->f.dH[d]? =some a->0<=c.pC/\c.pC<a.jm.length/\c.iY.length=a.iY/\c.kf.length=a.iY)/\dF m 2 (.ptr 0 0 0 0)/\dF m 3 (.ptr 1 0 0 0)/\dF m 5 (Z e)) ?_ ?_ J ?_
  ·rintro e m g z M ⟨i,j,n,A,o,v,p⟩;have I:=i.ne (b:=0) J;have P:=i.ne (b:=1) J;have y:e<l.dH.length:=J;have⟨c,ht⟩:∃c,l.dH[e]? =some c:=⟨_,az y⟩;have⟨a,k⟩:∃a,f.dH[e]? =some a:=⟨_,az z⟩;have K:l.dH[e]=c:=by rw[az y]at ht;simpa using ht
   have L:f.dH[e]=a:=by rw[az z]at k;simpa using k
   simp[j,n,o,v,p,z,y,I,i.low,K,L];refine ee (λu=>?_) (λu=>?_)
   ·simp[i.hp]
   simp only[bM,cd,aI,bj]at u;simp[o,v,p,M];refine⟨i.cons _,by simpa[I]using j,by simpa[P]using n,λd S T O r s=>?_⟩;rcases aQ d e with H|H
   ·exact A d S T H r s
   ·have:d=e:=J;subst this;rw[ht]at r;rw[k]at s;simp only[ar]at r s;subst r s;exact⟨J,J,u.1.2,u.2⟩
  ·rintro m g ⟨i,j,n,A,o,v,p⟩;simp[j,o,p,i.hp];exact⟨G,R,J,J,J,λd c a ht k=>A d c a (List.getElem?_eq_some_iff.1 k).1 ht k⟩
  ·exact⟨Q,j,n,λd c a O=>by omega,dy⟩
def II:oa prog cx 238 (λa:Int×Int=>[Z a.1,Z a.2]) (λa=>True) (λ_=>F0):=by
 refine jk [] (iQ 4275 [] func238) (λ_=>10) (λa i b=>by simp at b;exact aC b.1 b.2) ?_;rintro⟨k,f⟩ _ j d;simp at d;obtain⟨g,c⟩:=d;by_cases e:f<1
 ·simp[f238,c,e]
 ·simp[f238,g,c,e,BY (show¬f=0 by omega)];refine ee (λh=>?_) (λh=>?_)<;>simp[c,oN]
def Zi(a:fR)(b:eG):Prop:=(a.op=7\/a.op=9)->iP a.c b.iY.length=true
def Dk:oa prog cx 203 (λb:fR×eG=>[b.1.t,b.2.t]) (λb=>Zi b.1 b.2) (λ_=>F0):=by
 refine jk [(238,II.jA)] (iQ 1099578740959 [(6,[(1,10)]),(8,[(1,10)])] func203) (λ_=>10) (λb w i=>by simp at i;exact aC (fR.inj i.1) (eG.inj i.2)) ?_;rintro⟨a,v⟩ d x o;replace d:Zi a v:=d;simp at o;obtain⟨j,k⟩:=o;have⟨s,f⟩:=II.fnI (γ:=Int×Int) id (λ_=>trivial);have f:∀{r:fy},r.p 238=some (wR prog cx 238 (λb:Int×Int=>[Z b.1,Z b.2]) (λb=>True) (λ_=>F0))->∀h g,rl prog cx r 238 [Z h,Z g]=some (Z (s (h,g))):=λht h g=>f ht (h,g);cases c:decide (a.op=7)with
 |true=>
  have⟨u,hr,_⟩:=iD (d (.inl (by simpa using c)));have n:=em (eQ.1 (d (.inl (by simpa using c)))).1;have m:decide (a.op=6)=false:=by
   have:a.op=7:=by simpa using c
   exact aM J
  have l:decide (a.op=27)=false:=by
   have:a.op=7:=by simpa using c
   exact aM J
  simp[f203,j,k,c,m,l,hr,n,f,oN]
 |false=>
  cases e:decide (a.op=9)with
  |true=>
   have⟨u,hr,_⟩:=iD (d (.inr (by simpa using e)));have n:=em (eQ.1 (d (.inr (by simpa using e)))).1;have m:decide (a.op=6)=false:=by
    have:a.op=9:=by simpa using e
    exact aM J
   have l:decide (a.op=27)=false:=by
    have:a.op=9:=by simpa using e
    exact aM J
   simp[f203,j,k,c,e,m,l,hr,n,f,oN]
  |false=>
   simp[f203,j,k]
   repeat' (refine ee (λq=>?_) (λq=>?_)<;>simp[q,c,e])
def M5{a:H}(h:hU 0 a)(b:List Int)(hl:b.length<=1000000):∃f c,jc cx a 39 39 dD (sl (gG b))=some (.val f c)/\Gr c f 1 (gG b)/\Nb a c/\(∀d,dS f=some d->a.size<=d)/\(c=a\/c=a.cons ⟨1,0,0,false,false,gG b⟩):=by
 unfold jc rm om;simp only[jQ,ed,show pS.u= .slice 3 from rfl,mz,RA];cases b with
 |nil=>exact⟨_,_,rfl,Gr.nil _ _,Nb.refl h,λd e=>by simp at e,.inl rfl⟩
 |cons g b=>
  refine⟨.arr a.size 0 0 (gG (g::b)).length false,a.cons ⟨1,0,0,false,false,gG (g::b)⟩,?_,Gr.new (ep:=0) (ver:=0) (ex:=false) dy,(Nb.refl h).cons _,λd e=>by simp at e;omega,.inr rfl⟩;rw[ot (by simp[T.cells]),iH];show jL (a.jo 1 8 [] (gG (g::b)))=_;rw[pI (by simp[T.cells]) dB (by simp at hl|-;omega)];rfl
structure PeP(c:jU)(s:iO)(th:Int)(e:ej)(t:eG)(x:ge)(i:fR):Prop where
 f:Zo c s
 n:iP th c.dH.length=true
 ht:s.dH[th.toNat]? =some t
 hx:c.dH[th.toNat]? =some x
 hi:x.jm[t.pC.toNat]? =some i
 k:e.kind=1\/e.kind=17\/(e.kind=mY i.op/\e.kind≠0)
def abr(a:Nat)(c:iO):Prop:=∀d∈c.dH,∀b∈d.kf,b.length<=a
def evN(a:Nat)(b:ej):Prop:=b.mt.length<=a/\b.uN.length<=a
def XH(c:jU)(f:iO)(h:Int)(e:T):Prop:=∃(a:ej) (b:Bool),e= .tuple [a.t,.bool b]/\evN 1000000 a/\(b=true->∃g i d,PeP c f h a g i d)
def I9{f:jU}{m:iO}(g:Zo f m){d:Int}(h:iP d f.dH.length=true):∃b a c,ks d=some d.toNat/\m.dH[d.toNat]? =some b/\f.dH[d.toNat]? =some a/\ks b.pC=some b.pC.toNat/\a.jm[b.pC.toNat]? =some c/\b.iY.length=a.iY/\b.kf.length=a.iY/\(∀e∈jd c,0<=e/\e<a.iY)/\a.iY<=32:=by
 have⟨a,i,_⟩:=iD h;have j:=h;rw[<-g.th]at j;have⟨b,ht,_⟩:=iD j;have⟨p1,p2,p3,p4⟩:=g.t _ _ _ ht i;have⟨c,k⟩:∃c,a.jm[b.pC.toNat]? =some c:=⟨_,az J⟩;have l:=g.v.2.2 a (ay i);exact⟨b,a,c,em (eQ.1 h).1,ht,i,em p1,k,p3,p4,λe hr=>l.2.2 c (ay k) e hr,l.2.1⟩
structure PJ(th:Int)(t:eG)(i:fR)(o:Int)(h':H)(dv:T)(d:List Int)(ver:Nat):Prop where
 ok:hU 6 h'
 b2:h'.get 2=some (dE 7 0 [.agg [Z 0,Z 0,Z 0,Z 0,Z 0,dD,dD]])
 b3:h'.get 3=some (dE 4 1 [t.t])
 b4:h'.get 4=some (dE 6 1 [i.t])
 b5:h'.get 5=some (dE 7 ver [.agg [Z th,Z (mY i.op),Z o,Z 0,Z i.ji,dv,dD]])
 g:Gr h' dv 1 (gG d)
 l:d.length<=1000000
 bx:∀c,dS dv=some c->6<=c
def PJ.app{p:Int}{t:eG}{j:fR}{o:Int}{h:H}{q:Nat}(e:PJ p t j o h dD [] q)(k:List Int)(hl:k.length<=1000000):∃c b,jc cx h 39 39 dD (sl (gG k))=some (.val c b)/\c.ir=true/\c.cells=[c]/\(∀a,a<6->b.get a=h.get a)/\hU 6 b/\
 ∀d,d=((dE 7 (q+1) [.agg [Z p,Z (mY j.op),Z o,Z 0,Z j.ji,c,dD]]):iX)->PJ p t j o (dY b 5 d) c k (q+1):=by
 have w:=e.ok.sz;have⟨c,b,u,m,l,r,_⟩:=M5 ⟨e.ok.hp,e.ok.low,aw _⟩ k hl;have f:∀a,a<6->b.get a=h.get a:=λa i=>l.get a J;have s:hU 6 b:=⟨l.ok.hp,l.ok.low,aO w l.ok.sz⟩;have v:=(f 5 J).trans e.b5;have g:∀d a,(dY b 5 d).get a=if a=5 then some d else b.get a:=λd a=>dN v d a;refine⟨c,b,u,m.ir,m.cells,f,s,?_⟩;rintro d rfl;exact⟨s.put _ _,by rw[g,ao J];exact(f 2 J).trans e.b2,by rw[g,ao J];exact(f 3 J).trans e.b3,by rw[g,ao J];exact(f 4 J).trans e.b4,by rw[g,aq rfl],m.mono λa i=>by rw[g,ao (by have:=r a i;omega)],hl,λa i=>by have:=r a i;omega⟩
def AV:oa prog cx 156 (λn:jU×iO×Int=>[n.1.t,n.2.1.t,Z n.2.2]) (λn=>(∀x∈n.1.dH,x.jm.length<=10000001)/\abr 1000000 n.2.1) (λn=>XH n.1 n.2.1 n.2.2):=by
 refine jk [(201,IJ.jA),(202,zo),(203,Dk.jA)] (iQ 10633824283312870803151638865622599647 [(11,[(2,8),(4,8),(6,8)]),(14,[(2,3),(2,4)])] func156) (λ_=>100) (λn b U=>by simp at U;exact aC (jU.inj U.1) (aC (iO.inj U.2.1) U.2.2)) ?_;rintro⟨d,s,p⟩ ⟨bS,b6⟩ L bH;simp only at bS b6;simp at bH;obtain⟨c7,aX,I⟩:=bH;obtain⟨_,⟨b,rfl,bN⟩,bs⟩:=IJ.use (d,s) bS;simp only at bN bs;have a6:XH d s p (.tuple [ej.t ⟨0,0,0,0,0,[],[]⟩,.bool false]):=⟨_,_,rfl,⟨dy,dy⟩,dy⟩;simp[f156,c7,aX,I,bs];refine ee (λa7=>?_) (λa7=>?_)
 ·simp;exact a6
 simp only[bM,cd,bj]at a7;obtain⟨⟨rfl,cp⟩,eh⟩:=a7;have W:=bN rfl;have a8:iP p d.dH.length=true:=eQ.2 ⟨J,J⟩;have⟨y,x,e,b7,bi,b8,dm,b9,ea,eb,ca,ec⟩:=I9 W a8;have di:iP p s.fj.dH.length=true:=by
  rw[(mT W.f).2.2,<-W.v.2.1];exact a8
 have⟨u,cL,_⟩:=iD di;simp[I,b7,bi,b8,dm,b9,cL];have Y:∀z:ej,evN 1000000 z->(z.kind=1\/z.kind=17\/(z.kind=mY e.op/\z.kind≠0))->XH d s p (.tuple [z.t,.bool true]):=λz aX I=>⟨z,true,rfl,aX,λ_=>⟨y,x,e,W,a8,bi,b8,b9,I⟩⟩;refine ee (λcp=>?_) (λcp=>?_)
 ·simp[I];exact Y ⟨p,1,-1,0,-1,[],[]⟩ ⟨dy,dy⟩ (.inl rfl)
 cases av:decide (u.iE=4)with
 |true=>
  simp[I,av,b7,cL];exact Y ⟨p,17,u.cond,0,e.ji,[],[]⟩ ⟨dy,dy⟩ (.inr (.inl rfl))
 |false=>
 cases bn:decide (u.iE=2)with
 |false=>
  simp[av,bn];exact a6
 |true=>
  have bX:∀r∈jd e,iP r y.kf.length=true:=λr hr=>by have:=ca r hr;exact eQ.2 ⟨J,J⟩
  have dd:Zi e y:=λk=>by
   have hr:e.c∈jd e:=by unfold jd;rcases k with k|k<;>simp[k]
   have:=ca _ hr;exact eQ.2 ⟨J,J⟩
  obtain⟨_,⟨N,rfl⟩,bu⟩:=Dk.use (e,y) dd;simp only at bu;simp[av,bn,Vb,bu];refine ee (λF=>?_) (λF=>?_)
  ·simp;exact a6
  have bT:mY e.op≠0:=by simpa using F
  simp;generalize K:H.cons _ _=D;have ae:hU 6 D:=by rw[<-K];exact⟨dy,dy,dy⟩
  have c1:D.get 2=some (dE 7 0 [.agg [Z 0,Z 0,Z 0,Z 0,Z 0,dD,dD]]):=by rw[<-K];simp
  have Q:D.get 3=some (dE 4 1 [y.t]):=by rw[<-K];simp
  have R:D.get 4=some (dE 6 1 [e.t]):=by rw[<-K];simp
  have w:∃ap,D.get 5=some (dE 7 ap [.agg [Z p,Z (mY e.op),Z N,Z 0,Z e.ji,dD,dD]]):=⟨3,by rw[<-K];simp⟩;clear K;obtain⟨ds,w⟩:=w;have al:∀{r:Int},r∈jd e->∃j,ks r=some r.toNat/\y.kf[r.toNat]? =some j/\j.length<=1000000:=λ{r} hr=>by
   have⟨j,hl,_⟩:=iD (bX r hr);exact⟨j,em (eQ.1 (bX r hr)).1,hl,b6 y (ay bi) j (ay hl)⟩
  have ef:hU 0 D:=⟨ae.hp,ae.low,aw _⟩;have er:=ae.sz;have X:PJ p y e N D dD [] ds:=⟨ae,c1,Q,R,w,Gr.nil _ _,dy,λd F=>by simp at F⟩;refine kQ (λL h'=>∃T G ap,PJ p y e N h' T G ap/\dF L 6 (.ptr 2 0 0 0)/\dF L 8 (.ptr 3 0 0 0)/\dF L 9 (.ptr 4 0 0 0)/\dF L 10 (.ptr 5 0 0 0)) (λcy=>?_) (λcy=>?_) ?_
  ·have V:e.op=10:=by simpa using cy
   have⟨j,l1,l2,l3⟩:=al (r:=e.a) (by unfold jd;simp[V]);have⟨an,o,C,P,O,A,cb,fin⟩:=X.app j l3;have sv:=λd (m:d<6)=>fD (A d m);have B:=(A 5 J).trans w;simp[Q,R,w,l1,l2,C,P,O,B,dX];exact⟨_,_,_,fin _ rfl⟩
  ·cases S:decide (e.op=7)with
   |true=>
    have⟨j,l1,l2,l3⟩:=al (r:=e.c) (by unfold jd;simp[show e.op=7 by simpa using S]);have⟨an,o,C,P,O,A,cb,fin⟩:=X.app j l3;have sv:=λd (m:d<6)=>fD (A d m);have B:=(A 5 J).trans w;simp[S,Q,R,w,l1,l2,C,P,O,B,dX];exact⟨_,_,_,fin _ rfl⟩
   |false=>
   cases aA:decide (e.op=9)with
   |true=>
    have⟨j,l1,l2,l3⟩:=al (r:=e.c) (by unfold jd;simp[show e.op=9 by simpa using aA]);have⟨an,o,C,P,O,A,cb,fin⟩:=X.app j l3;have sv:=λd (m:d<6)=>fD (A d m);have B:=(A 5 J).trans w;simp[S,aA,Q,R,w,l1,l2,C,P,O,B,dX];exact⟨_,_,_,fin _ rfl⟩
   |false=>
    simp[S,aA];exact⟨_,_,_,X⟩
  rintro L h' ⟨T,G,ap,i,bB,c9,bC,V⟩;have eo:=i.ok.sz;have dn:hU 0 h':=⟨i.ok.hp,i.ok.low,aw _⟩;simp[bC,i.b4];refine ee (λF=>?_) (λF=>?_)
  ·have de:e.op=8\/e.op=9\/e.op=26:=by
    simp only[bY,aI]at F;omega
   have⟨j,l1,l2,l3⟩:=al (r:=e.b) (by unfold jd;rcases de with k|k|k<;>simp[k]);have⟨an,o,C,g,E,c4,_⟩:=M5 dn j l3;have sv:=λd (m:d<6)=>fD (E.get d J);have dv:=(E.get 2 J).trans i.b2;have B:=(E.get 5 J).trans i.b5;have M:∀h d,(dY o 5 h).get d=if d=5 then some h else o.get d:=λh d=>dN B h d;have aN:∀h q d,(dY (dY o 5 h) 2 q).get d=if d=2 then some q else if d=5 then some h else o.get d:=λh q d=>by
    rw[mr (by simp;exact E.ok.hp) (by have:=E.ok.sz;simp;omega),M]
   have aE:∀h q,TI.fz (dY (dY o 5 h) 2 q) T=some (sl (gG G)):=λh q=>(i.g.mono (h':=dY (dY o 5 h) 2 q) λd m=>by
    have⟨_,_,_,_,dk,_⟩:=i.g.box m;have:=i.bx d m;rw[aN,ao J,ao J];exact E.get d (H.fa dk)).fz dy
   have c6:∀h q,TI.fz (dY (dY o 5 h) 2 q) an=some (sl (gG j)):=λh q=>(g.mono (h':=dY (dY o 5 h) 2 q) λd m=>by
    have:=c4 d m;rw[aN,ao J,ao J]).fz dy
   simp[bB,c9,bC,V,i.b3,i.b4,i.b5,l1,l2,C,g.ir,g.cells,dv,B,M,aN,aE,c6,dX,E.ok.hp];exact Y ⟨p,mY e.op,N,0,e.ji,G,j⟩ ⟨i.l,l3⟩ (.inr (.inr ⟨rfl,bT⟩))
  ·have M:∀h d,(dY h' 2 h).get d=if d=2 then some h else h'.get d:=λh d=>dN i.b2 h d;have aE:∀h,TI.fz (dY h' 2 h) T=some (sl (gG G)):=λh=>(i.g.mono (h':=dY h' 2 h) λd m=>by
    have:=i.bx d m;rw[M,ao J]).fz dy
   simp[bB,V,i.b2,i.b5,M,aE,dX,i.ok.hp];exact Y ⟨p,mY e.op,N,0,e.ji,G,[]⟩ ⟨i.l,dy⟩ (.inr (.inr ⟨rfl,bT⟩))
structure Vz(n0:Nat)(h':H)(ct:T)(es:List T)(ts:List eG)(lo hi:Nat->Nat):Prop where
 g:Gr h' ct 4 es
 l:es.length=ts.length
 e:∀(i:Nat) (e:T) (t:eG),es[i]? =some e->ts[i]? =some t->∃a b el,e=Ce t a b/\BT (lo i) (hi i) h' a b el t
 m:∀i,i<ts.length->n0<=lo i/\hi i<=h'.size
 d:∀i j,i<j->j<ts.length->hi i<=lo j
 c:∀c,dS ct=some c->n0<=c/\∀i,i<ts.length->¬(lo i<=c/\c<hi i)
def Vz.mono{j:Nat}{f h':H}{k:T}{n:List T}{s:List eG}{q h:Nat->Nat}(b:Vz j f k n s q h)(C:f.size<=h'.size)(p:∀a,j<=a->a<f.size->h'.get a=f.get a):Vz j h' k n s q h:=
 ⟨b.g.mono λa r=>p a (b.c a r).1 (by have⟨_,_,_,_,z,_⟩:=b.g.box r;exact H.fa z),b.l,λi v B A o=>by
   have⟨t,u,y,w,x⟩:=b.e i v B A o;have D:=b.m i (by have:=(List.getElem?_eq_some_iff.1 o).1;exact this);exact⟨t,u,y,w,x.mono (au _) (au _) λa E F=>p a J J⟩,λi h=>by have:=b.m i h;omega,b.d,b.c⟩
def Vz.app{y:Nat}{o r D:H}{v B:T}{w:List T}{i:List eG}{F h:Nat->Nat}(f:Vz y o v w i F h)(W:y<=o.size)(G:Nb o r){s t:T}{C:List T}{u:eG}(U:BT o.size r.size r s t C u)(x:Xt r v 4 (w++[Ce u s t]) B D):
 Vz y D B (w++[Ce u s t]) (i++[u]) (λa=>if a=i.length then o.size else F a) (λa=>if a=i.length then r.size else h a):=by
 have Y:=G.ok.sz;have ae:=x.2.2.2.sz;have A:∀b,dS v=some b->b<o.size:=λb q=>by have⟨_,_,_,_,Q,_⟩:=f.g.box q;exact H.fa Q
 refine⟨x.1,by simp[f.l],λa M V p k=>?_,λa h=>?_,λa E R S=>?_,λb q=>?_⟩
 ·by_cases q:a=i.length
  ·subst q;rw[cY (au _),Nat.sub_self]at k;rw[cY (by rw[f.l];exact au _),f.l,Nat.sub_self]at p;simp at p k;subst p;subst k;refine⟨s,t,C,rfl,?_⟩;simp only[bF];exact U.mono (au _) (au _) λb I z=>x.2.1 b z λq=>by have:=A b q;omega
  ·have h:a<i.length:=by have:=(List.getElem?_eq_some_iff.1 k).1;simp at this;omega
   rw[cv h]at k;rw[cv (by rw[f.l];exact h)]at p;have⟨K,L,P,N,O⟩:=f.e a M V p k;have X:=f.m a h;rw[ao q,ao q];exact⟨K,L,P,N,O.mono (au _) (au _) λb I z=>(x.2.1 b J λq=>((f.c b q).2 a h ⟨I,z⟩)).trans (G.get b J)⟩
 ·simp at h;by_cases q:a=i.length
  ·rw[aq q,aq q];omega
  ·rw[ao q,ao q];have:=f.m a J;omega
 ·simp at S;by_cases q:E=i.length
  ·rw[ao J,aq q];have:=f.m a J;omega
  ·rw[ao J,ao q];exact f.d a E R J
 ·rcases x.2.2.1 b q with q|q
  ·refine⟨(f.c b q).1,λa h=>?_⟩;simp at h;by_cases j:a=i.length
   ·rw[aq j,aq j];have:=A b q;omega
   ·rw[ao j,ao j];exact(f.c b q).2 a J
  ·refine⟨J,λa h=>?_⟩;simp at h;by_cases j:a=i.length
   ·rw[aq j,aq j];omega
   ·rw[ao j,ao j];have:=f.m a J;omega
def JN{b f:Type}{c:f->b->Prop}{d:b->f}(e:∀x,c (d x) x):∀a:List b,iF c (a.map d) a
 | []=> .nil
 |x::a=> .cons (e x) (JN e a)
def XE(a:iO)(d:List T)(c:H):Prop:=d=[a.t]/\hU 0 c/\FC a.fj [a.fj.t] c/\a.cells.length<=1000000/\a.d8.length<=1000000/\a.dH.length<=1000000/\∀b∈a.dH,b.iY.length<=1000000/\b.kf.length<=1000000/\∀e∈b.kf,e.length<=1000000
structure Cp9(s:iO)(h h':H)(c0 c2 c3 cc cf ct:T)(es:List T)(lo hi:Nat->Nat)(n0:Nat):Prop where
 nb:Nb h h'
 z:h.size<=n0
 zn:n0<=h'.size
 k0:c0.ir=true/\c0.cells=[c0]/\c2.ir=true/\c2.cells=[c2]/\c3.ir=true/\c3.cells=[c3]
 gc:Gr h' cc 1 (gG s.cells)
 gf:Gr h' cf 1 (gG s.d8)
 bc:∀c,dS cc=some c->h.size<=c/\c<n0
 bf:∀c,dS cf=some c->h.size<=c/\c<n0/\dS cc≠some c
 th:Vz n0 h' ct es s.dH lo hi
def Qi(g:iO)(o:List T)(i:H)(n:T)(j:H):Prop:=∃a b c d e f h l k m,n= .agg [a,Z g.fj.tx,b,c,d,e,f]/\Cp9 g i j a b c d e f h l k m
structure Cq(s:iO)(h:H)(c0 c2 c3 cc cf:T)(q:Nat)(h':H)(k:Nat)(ct:T)(es:List T)(lo hi:Nat->Nat)(ver:Nat):Prop where
 nb:Nb h h'
 b1:h'.get h.size=some (dE 7 0 [s.t])
 b2:h'.get (h.size+1)=some (dE 7 0 [.agg [dD,Z 0,dD,dD,dD,dD,dD]])
 b3:h'.get q=some (dE 7 ver [.agg [c0,Z s.fj.tx,c2,c3,cc,cf,ct]])
 gc:Gr h' cc 1 (gG s.cells)
 gf:Gr h' cf 1 (gG s.d8)
 th:Vz (q+1) h' ct es (s.dH.take k) lo hi
def Q5:(jI iO XE Qi).Ok prog cx 176:=by
 refine jx (tb:=⟨pt [],ht [(46,jI fH FC KA),(219,jI ICp PZ Kz)]⟩) iL iB (iQ 2097183 [(1,[(2,3),(2,5),(2,7),(6,7),(2,9),(6,9),(2,12),(6,12),(10,12)]),(5,[(1,7)])] func176) (λ_ _=>1000005) (λw r d eP=>by obtain⟨rfl,_⟩:=eP;simp[f176]) ?_;rintro h _ d ⟨rfl,eX,⟨_,_,p1,p2,p3,p4⟩,fX,fY,gg,eU⟩ M di;simp at di;have cb:=eX.hr;simp[f176,di];generalize G:H.cons _ _=F;have e5:hU 0 F:=by rw[<-G];exact(cb.cons _).cons _
 have gP:F.size=d.size+1+1:=by rw[<-G];rfl
 have eW:Nb d F:=by rw[<-G];exact⟨(((Nb.refl cb).cons _).cons _).ok,λa k=>((((Nb.refl cb).cons _).cons _).get a k).trans (gU d a)⟩
 have cL:F.get d.size=some (dE 7 0 [h.t]):=by rw[<-G];simp
 have c1:F.get (d.size+1)=some (dE 7 0 [.agg [dD,Z 0,dD,dD,dD,dD,dD]]):=by rw[<-G];simp
 clear G;refine mo Do dy h.fj ⟨rfl,e5,p1,p2,p3,p4⟩ ?_;rintro _ b ⟨s,u,v,fA,rfl,L,E⟩;have gz:=E.ok.sz;have dm:hU 0 b:=⟨E.ok.hp,E.ok.low,aw _⟩;have a1:=(E.get d.size J).trans cL;have a2:=(E.get (d.size+1) J).trans c1;have⟨al,X,bB,⟨gn,gw,bC⟩,er,V,okB⟩:=jV (cx:=cx) (sz:=1) dm (x:=sl (h.cells.map (T.int .i64))) (xs:=h.cells.map (T.int .i64)) pF rfl Ak pF rfl rfl dy dy (by simp[T.cells]) dz;have⟨an,N,ae,⟨gv,gy,ap⟩,fo,I,ca⟩:=jV (cx:=cx) (sz:=1) okB (x:=sl (h.d8.map (T.int .i64))) (xs:=h.d8.map (T.int .i64)) pF rfl Ak pF rfl rfl dy dy (by simp[T.cells]) dz;have c7:∀a,a<b.size->fh (b.cons (dE 1 0 [])) X a=true:=λa k=>fD ((V a k).trans (by rw[dT,ao J]));have c9:∀a,a<X.size->fh (X.cons (dE 1 0 [])) N a=true:=λa k=>fD ((I a k).trans (by rw[dT,ao J]));have eb:=fD (E.get d.size J);have ef:=c7 d.size J;have e6:=c9 d.size J;have eh:∀a,b.size+1<=a->fh (b.cons (dE 1 0 [])) X a=true:=λa k=>iU (lj _ dz);have eo:∀a,b.size+2<=a->fh (X.cons (dE 1 0 [])) N a=true:=λa k=>iU (lj _ dz);have cy:∀a,b.size<=a->fh F b a=true:=λa k=>iU (lj _ J);have bu:=(V d.size J).trans a1;have c4:=(I d.size J).trans bu;have c6:=(I (d.size+1) J).trans ((V (d.size+1) J).trans a2);have gi:=dm.low;have gj:=okB.low;have gk:=ca.low;simp only[aG]at bB ae bC ap;rw[er]at ae ap;have fi:(d.size=b.size)=False:=dz;have gB:(d.size+1=b.size)=False:=dz;have fl:(d.size=b.size+1)=False:=dz;have gD:(d.size+1=b.size+1)=False:=dz;have ec:=cy (b.size+1+1) J;have eN:s.ir=true/\s.cells=[s]/\u.ir=true/\u.cells=[u]/\v.ir=true/\v.cells=[v]:=⟨L.g0.ir,L.g0.cells,L.g2.ir,L.g2.cells,L.g3.ir,L.g3.cells⟩;obtain⟨eA,eB,eC,eD,eE,eF⟩:=eN;simp[Nr,a1,bB,ae,er,fo,bu,eb,ef,cy,eh,eo,fi,fl,ec];have gm:d.size+1<b.size+1+1:=J;have fs:N.size=b.size+1+1:=J;generalize S:N.cons ⟨7,0,0,true,false,_⟩=R;have ff:R.size=b.size+1+1+1:=by rw[<-S];simp[size_cons,fs]
 have e4:hU 0 R:=by rw[<-S];exact hU.cons ⟨ca.hp,ca.low,aw _⟩ _
 have bH:R.get (b.size+1+1)=some (dE 7 0 [.agg [dD,Z 0,dD,dD,dD,dD,dD]]):=by
  rw[<-S,dT,aq J]
 have dk:∀a,a<b.size+1+1->R.get a=N.get a:=λa k=>by rw[<-S,dT,ao J]
 generalize U:dY R _ _=D;have gM:D.size=b.size+1+1+1:=by rw[<-U,fJ,ff]
 have ds:hU 0 D:=by rw[<-U];exact e4.put _ _
 have eH:=(show D.get (b.size+1+1)=some (dE 7 1 [.agg [s,Z h.fj.tx,u,v,.arr b.size al 0 h.cells.length false,.arr (b.size+1) an 0 h.d8.length false,dD]])by rw[<-U];exact(dN bH _ _).trans (aq rfl));have K:∀a,a<b.size+1+1->D.get a=N.get a:=λa k=>by rw[<-U,dN bH,ao J];exact dk a k
 clear U S;have bN:Gr D (.arr b.size al 0 h.cells.length false) 1 (gG h.cells):=by
  have:=Gr.new (((K b.size J).trans (I b.size J)).trans bC);simpa using this
 have bS:Gr D (.arr (b.size+1) an 0 h.d8.length false) 1 (gG h.d8):=by
  have:=Gr.new ((K (b.size+1) J).trans ap);simpa using this
 have eV:Nb d D:=⟨⟨ds.hp,ds.low,J⟩,λa k=>(K a J).trans ((I a J).trans ((V a J).trans ((E.get a J).trans (eW.get a k))))⟩;have et:=(K d.size J).trans c4;have eu:=(K (d.size+1) J).trans c6;have Y:∀a,dS (.arr b.size al 0 h.cells.length false)=some a->a=b.size:=λa i=>by simpa using i.symm
 have O:∀a,dS (.arr (b.size+1) an 0 h.d8.length false)=some a->a=b.size+1:=λa i=>by simpa using i.symm
 generalize T.arr b.size al 0 h.cells.length false=B at*
 generalize T.arr (b.size+1) an 0 h.d8.length false=C at*
 have a8:∀a,dS B=some a->d.size<=a/\a<b.size+1+1+1:=λa i=>by have:=Y a i;omega
 have bi:∀a,dS C=some a->d.size<=a/\a<b.size+1+1+1/\dS B≠some a:=λa i=>⟨by have:=O a i;omega,by have:=O a i;omega,λcp=>by have:=Y a cp;have:=O a i;omega⟩;have dv:∀a,dS B=some a->a≠b.size+1+1/\a≠d.size+1:=λa i=>by have:=Y a i;omega
 have ea:∀a,dS C=some a->a≠b.size+1+1/\a≠d.size+1:=λa i=>by have:=O a i;omega
 clear Y O bB ae bC ap eb ef e6 cy eh eo ec V I c7 c9 bu c4 c6 a1 a2 cL c1 K dk bH;generalize b.size+1+1=i at*
 have fB:=bN.ir;have fC:=bN.cells;have fE:=bS.ir;have fL:=bS.cells;refine rO h.dH.length (λo M h'=>∃p Q a7 aX W,Cq h d s u v B C i h' o p Q a7 aX W/\dF M 1 (.ptr d.size 0 0 0)/\dF M 2 (.ptr (d.size+1) 0 0 0)/\dF M 3 (.ptr i 0 0 0)/\dF M 4 (Z o)) ?_ J (aw _) ?_
 ·rintro o M h' gd ⟨p,Q,a7,aX,W,f,bT,dd,aE,bX⟩;simp[bT,bX,f.b1];refine ee (λb6=>?_) (λb6=>?_)
  ·have b7:o<h.dH.length:=by simpa using b6
   have⟨m,a6⟩:∃m,h.dH[o]? =some m:=⟨_,az b7⟩;have eO:h.dH[o]=m:=by rw[az b7]at a6;simpa using a6
   have b9:=eU m (ay a6);simp[bT,aE,bX,f.b1,f.b3,b7,eO];have e0:hU 0 h':=⟨f.nb.ok.hp,f.nb.ok.low,aw _⟩;refine mo IM dy ⟨m,sl (gG m.iY),sl (m.kf.map tn1),m.kf.map tn1⟩ ⟨by rfl,⟨.inl rfl,.inl rfl,?_,?_⟩,e0,b9.1,b9.2.1,b9.2.2⟩ ?_
   ·exact JN (λl=> .inl rfl) _
   ·rintro e a (rfl|rfl|he) x
    ·simp at x
    ·simp at x
    ·obtain⟨l,_,rfl⟩:=List.mem_map.1 he;simp[tn1]at x
   rintro _ aA ⟨r,A,fv,rfl,fe,q⟩;have cp:i+1<=h'.size:=by have:=H.fa f.b3;omega
   have p3:=(q.get i J).trans f.b3;have eI:Gr aA p 4 Q:=f.th.g.mono λa x=>q.get a (by have⟨_,_,_,_,g,_⟩:=f.th.g.box x;exact H.fa g);have⟨bn,aN,ey,z⟩:=eI.yQ (cx:=cx) ⟨q.ok.hp,q.ok.low,aw _⟩ MJ rfl MG rfl dy (x:=Ce m r A) rfl (by have:=f.th.l;simp at this;simp;omega);have e9:=fD (q.get i J);have e8:∀a,a<aA.size->dS p≠some a->fh (aA.cons (dE 4 0 [Ce m r A])) aN a=true:=λa k b8=>fD ((z.2.1 a k b8).trans (by rw[dT,ao J]));have bs:dS p≠some i:=λx=>by have:=(f.th.c i x).1;omega
   have e7:=e8 i (by have:=q.ok.sz;omega) bs;have p4:=(z.2.1 i (by have:=q.ok.sz;omega) bs).trans p3;have eL:(Ce m r A).ir=true/\(Ce m r A).cells=[Z m.pC,r,A,Z m.dJ]:=by simp[Ce,T.cells]
   have fS:Ce m r A= .agg [Z m.pC,r,A,Z m.dJ]:=rfl;simp[aE,bX,ey,e9,eL,e7,p4,z.1.ir,z.1.cells,dX];rw[iz J J];simp;refine⟨o+1,J,J,⟨bn,Q++[Ce m r A],λw=>if w=(h.dH.take o).length then h'.size else a7 w,λw=>if w=(h.dH.take o).length then aA.size else aX w,W+1,?_⟩,bT,dd,aE,dy⟩;have gE:=z.2.2.2.sz;have gI:=q.ok.sz;have gq:∀a,a<h'.size->a≠i->dS p≠some a->(dY aN i (dE 7 (W+1) [.agg [s,Z h.fj.tx,u,v,B,C,bn]])).get a=h'.get a:=λa k eR b8=>by
    rw[dN p4,ao eR,z.2.1 a J b8,q.get a k]
   have P:∀a,a<=i->dS p≠some a:=λa k x=>by have:=(f.th.c a x).1;omega
   have dn:hU 0 aN:=⟨z.2.2.2.hp,z.2.2.2.low,aw _⟩;refine⟨⟨⟨(dn.put _ _).hp,(dn.put _ _).low,by rw[fJ];have:=f.nb.ok.sz;omega⟩,λa k=>(gq a J J (P a J)).trans (f.nb.get a k)⟩,
    (gq _ J J (P _ J)).trans f.b1,(gq _ J J (P _ J)).trans f.b2,(dN p4 _ _).trans (aq rfl),
    f.gc.mono λa x=>gq a (by have:=a8 a x;omega) (dv a x).1 (P a (by have:=a8 a x;omega)),f.gf.mono λa x=>gq a (by have:=bi a x;omega) (ea a x).1 (P a (by have:=bi a x;omega)),?_⟩
   have fb:=(f.th.app cp q fe z).mono (h':=dY aN i (dE 7 (W+1) [.agg [s,Z h.fj.tx,u,v,B,C,bn]])) (by rw[fJ];exact au _) λa x _=>by rw[dN p4,ao J]
   have eS:h.dH.take (o+1)=h.dH.take o++[m]:=by rw[List.take_add_one,a6];rfl
   rw[eS];exact fb
  ·have eM:o=h.dH.length:=by
    have:¬o<h.dH.length:=by simpa using b6
    omega
   subst eM;have de:=f.th;rw[aK]at de;have bs:∀a,dS p=some a->i+1<=a:=λa x=>(f.th.c a x).1;simp[dd,aE,f.b2,f.b3,dX,dN f.b2];have av:∀a,a≠d.size+1->(lO d (dY h' (d.size+1) (dE 7 1 [.agg [s,Z h.fj.tx,u,v,B,C,p]]))).get a=h'.get a:=λa k=>by rw[fW,dN f.b2,ao k]
   refine⟨s,u,v,B,C,p,Q,a7,aX,i+1,rfl,⟨⟨((hU.put (n:=0) ⟨f.nb.ok.hp,f.nb.ok.low,aw _⟩ _ _).out d).hp,((hU.put (n:=0) ⟨f.nb.ok.hp,f.nb.ok.low,aw _⟩ _ _).out d).low,by rw[uy,fJ];exact f.nb.ok.sz⟩,λa k=>(av a J).trans (f.nb.get a k)⟩,J,by rw[uy,fJ];exact H.fa f.b3,⟨eA,eB,eC,eD,eE,eF⟩,
    f.gc.mono λa x=>av a (dv a x).2,f.gf.mono λa x=>av a (ea a x).2,a8,bi,de.mono (by rw[uy,fJ];exact au _) λa x _=>av a J⟩
 ·refine⟨dD,[],λ_=>0,λ_=>0,1,⟨eV,et,eu,eH,bN,bS,⟨Gr.nil _ _,rfl,λw e m x=>by simp at x,λw x=>by simp at x,λw j x y=>by simp at y,λa x=>by simp at x⟩⟩,dy⟩
section
def SX{j:Out}{e f:iR}(o:W j e)(q:∀d h,e.n d h->f.n d h)(v:∀i d h,e.x i d h->f.x i d h)(u:∀d h,e.r d h->f.r d h):W j f:=by
 obtain⟨l,d,h,m,g⟩:=o;refine⟨l,d,h,m,?_⟩;cases l with
 |normal=>exact q d h g
 |exit i=>exact v i d h g
 |ret=>exact u d h g
def Tq{cx:Ctx}{cf:je}{z y id:Nat}{u:DL}{t:Bool}{a b:Code}{m:Env->H->Out}{d:Env}{h:H}{f:iR}(l:fZ->H->Prop)(v:CK (some (.bool t)) cx cf z y u a b d h (GZ m (sk id (yD (λd h=>d.tmps= .nil/\l d.vars h) f))))
 (B:∀o h,l o h->f.n ⟨o,.nil⟩ h):CK (some (.bool t)) cx cf z y u a b d h (GZ m (sk id f)):=by
 have q:∀d h,(d.tmps= .nil/\l d.vars h)->f.n d h:=λd h ⟨e,w⟩=>by obtain⟨o,C⟩:=d;simp only at e w;subst e;exact B o h w
 have A:∀g,W g (sk id (yD (λd h=>d.tmps= .nil/\l d.vars h) f))->W g (sk id f):=λg r=>SX r q (λi d h e=>by
  rw[zW]at e|-;split
  ·rename_i j;rw[aq j]at e;exact q d h e
  ·rename_i j;rw[ao j]at e;exact e) λ_ _ e=>e
 have x:∀g,W g (GZ m (sk id (yD (λd h=>d.tmps= .nil/\l d.vars h) f)))->W g (GZ m (sk id f)):=λg r=>SX r (λd h e=>A _ e) (λi d h e=>by
  rw[Yg,zW]at e|-;split
  ·rename_i j;rw[aq j]at e;exact q d h e
  ·rename_i j;rw[ao j]at e;exact e) λ_ _ e=>e
 cases t
 ·exact x _ v
 ·exact x _ v
structure StI(s:iO):Prop where
 l:s.fj.ei.length<=1000/\s.fj.done.length<=1000/\s.fj.dH.length<=1000/\s.cells.length<=1000/\s.d8.length<=1000/\s.dH.length<=1000
 r:JS 4 s.fj
 a:s.fj.BS
 t:∀t∈s.dH,WP 1000000 t
def Yz(d:Nat)(s:iO):Prop:=∀t∈s.dH,0<=t.dJ/\t.dJ<=d
def abu(s:iO)(j:T):Prop:=∃(d:iO) (f:ej) (g:Bool),j= .tuple [d.t,f.t,.bool g]/\evN 1000000 f/\(g=true->StI d/\∀e:Nat,Yz e s->Yz (e+1) d)
def BT.Mn{lo l hi j:Nat}{h h':H}{a b:T}{es:List T}{s:eG}(t:BT lo hi h a b es s)(hl:l<=lo)(r:hi<=j)(f:∀e,(e=a\/e=b\/e∈es)->∀c,dS e=some c->h'.get c=h.get c):BT l j h' a b es s:=
 ⟨t.ga.mono λc d=>f a (.inl rfl) c d,t.gb.mono λc d=>f b (.inr (.inl rfl)) c d,t.el.imp_mem λm n u d=>⟨d.1.mono λc g=>f m (.inr (.inr n)) c g,λc g=>by
   have⟨v,w,o,q⟩:=d.2 c g;exact⟨J,J,o,q⟩⟩,λc d=>by have:=t.ba c d;exact⟨J,J,this.2.2⟩,λc d=>by have:=t.bb c d;exact⟨J,J⟩⟩
def BT.fzB{lo hi:Nat}{h:H}{a b:T}{es:List T}{s:eG}(t:BT lo hi h a b es s)(o:Nat->Prop)(n:∀m,(m=a\/m=b\/m∈es)->∀c,dS m=some c->o c):iF (FT h o 3) [Z s.pC,a,b,Z s.dJ] s.cs:=
 .cons (fV ..) (.cons ((show pK h 1 a (gG s.iY)from .inr t.ga).ft (d:=1) (I8 _) λc g=>n a (.inl rfl) c g)
  (.cons (t.gb.ft (λc g=>n b (.inr (.inl rfl)) c g) ((t.el.imp_mem (R':=λe j=>pK h 1 e (gG j)/\e∈es) λe q j l=>⟨l.1,q⟩).X9 (f:=λj=>sl (gG j)) λe j l=>l.1.ft (d:=0) (I8 _) λc g=>n e (.inr (.inr l.2)) c g)) (.cons (fV ..) .nil)))
def Cz{g j:Type}{l:g->j->Prop}:∀{e:List g} {f:List j},e.length=f.length->(∀(d:Nat) (a:g) (b:j),e[d]? =some a->f[d]? =some b->l a b)->iF l e f
 | [],[],_,_=> .nil
 |a::e,b::f,hl,h=> .cons (h 0 a b rfl rfl) (Cz (by simpa using hl) λd o q m n=>h (d+1) o q (by simpa using m) (by simpa using n))
 | [],_::_,hl,_=>by simp at hl
 |_::_,[],hl,_=>by simp at hl
structure SJ(c:jU)(s:iO)(ch:gF)(i:fR)(S:fH)(k p n0:Nat)(cc cf ct:T)(es:List T)(lo hi:Nat->Nat)(a b:T)(el:List T)(t:eG)(h:H):Prop where
 ok:hU 0 h
 z:p+1+1<=h.size
 n7:7<=n0
 np:n0<=p
 b0:h.get 0=some (dE 7 0 [c.t])
 b1:h.get 1=some (dE 7 2 [.agg [sl (S.ei.map dU.t),Z S.tx,sl (S.done.map T.bool),sl (S.dH.map dM.t),cc,cf,ct]])
 b2:h.get 2=some (dE 2 0 [ch.t])
 b3:h.get 3=some (dE 7 0 [.agg [dD,Z 0,dD,dD,dD,dD,dD]])
 b4:h.get 4=some (dE 7 0 [.agg [Z 0,Z 0,Z 0,Z 0,Z 0,dD,dD]])
 bq:h.get (p+1)=some (dE 6 1 [i.t])
 gc:∃l,Gr h cc 1 (gG l)/\l.length=s.cells.length
 gf:∃l,Gr h cf 1 (gG l)/\l.length=s.d8.length
 bc:∀c,dS cc=some c->7<=c/\c<n0
 bf:∀c,dS cf=some c->7<=c/\c<n0/\dS cc≠some c
 gt:Gr h ct 4 es
 l:es.length=s.dH.length
 m:∀j,j<s.dH.length->n0<=lo j/\hi j<=p
 d:∀i j,i<j->j<s.dH.length->hi i<=lo j
 bt:∀c,dS ct=some c->n0<=c/\c<p/\∀j,j<s.dH.length->¬(lo j<=c/\c<hi j)
 o:∀(j:Nat) (e:T) (u:eG),j≠k->es[j]? =some e->s.dH[j]? =some u->FT h (λc=>lo j<=c/\c<hi j) 4 e u.t
 hk:k<s.dH.length
 ek:∃x y,es[k]? =some (.agg [Z x,a,b,Z y])
 tx:BT 7 h.size h a b el t
 xb:∀v,(v=a\/v=b\/v∈el)->∀c,dS v=some c->lo k<=c/\(c<hi k\/p+1<c)
section
variable {c:jU}{s:iO}{ch:gF}{i:fR}{S:fH}{k p n0:Nat}{cc cf ct:T}{es:List T}{lo hi:Nat->Nat}{a b:T}{el Pd:List T}{t t':eG}{h h':H}
def SJ.gen(e:SJ c s ch i S k p n0 cc cf ct es lo hi a b el t h)(L:hU 0 h')(V:h.size<=h'.size)(u:∀c,c<h.size->c≠5->c≠p->dS cc≠some c->dS cf≠some c->dS a≠some c->dS b≠some c->h'.get c=h.get c)
 (D:∃r,Gr h' cc 1 (gG r)/\r.length=s.cells.length) (E:∃r,Gr h' cf 1 (gG r)/\r.length=s.d8.length) (M:BT 7 h'.size h' a b Pd t') (O:∀w,(w=a\/w=b\/w∈Pd)->∀c,dS w=some c->lo k<=c/\(c<hi k\/p+1<c)):
 SJ c s ch i S k p n0 cc cf ct es lo hi a b Pd t' h':=by
 have W:=e.z;have I:=e.n7;have K:=e.np;have R:=e.m k e.hk;have v:∀q,q<7->dS cc≠some q/\dS cf≠some q/\dS a≠some q/\dS b≠some q:=λq g=>⟨λf=>by have:=e.bc q f;omega,λf=>by have:=e.bf q f;omega,λf=>by have:=(e.tx.ba q f).1;omega,λf=>by have:=(e.tx.bb q f).1;omega⟩;have n:∀q,q<7->q≠5->h'.get q=h.get q:=λq g F=>u q J F J (v q g).1 (v q g).2.1 (v q g).2.2.1 (v q g).2.2.2;have j:∀q,dS a=some q\/dS b=some q->lo k<=q/\(q<hi k\/p+1<q):=λq f=>f.elim (λf=>e.xb a (.inl rfl) q f) λf=>e.xb b (.inr (.inl rfl)) q f;refine⟨L,J,I,K,(n 0 J J).trans e.b0,(n 1 J J).trans e.b1,(n 2 J J).trans e.b2,(n 3 J J).trans e.b3,(n 4 J J).trans e.b4,?_,D,E,e.bc,e.bf,e.gt.mono λq f=>?_,e.l,e.m,e.d,e.bt,λi C N x G A=>?_,e.hk,e.ek,M,O⟩
 ·refine(u (p+1) J J J (λf=>?_) (λf=>?_) (λf=>?_) λf=>?_).trans e.bq
  ·have:=e.bc _ f;omega
  ·have:=e.bf _ f;omega
  ·have:=j _ (.inl f);omega
  ·have:=j _ (.inr f);omega
 ·have B:=e.bt q f;have U:=B.2.2 k e.hk;refine u q J J J (λf=>?_) (λf=>?_) (λf=>?_) λf=>?_
  ·have:=e.bc _ f;omega
  ·have:=e.bf _ f;omega
  ·have:=j _ (.inl f);omega
  ·have:=j _ (.inr f);omega
 ·have y:i<s.dH.length:=(List.getElem?_eq_some_iff.1 A).1;have Q:=e.m i y;have P:hi i<=lo k\/hi k<=lo i:=by
   rcases Nat.lt_or_gt_of_ne x with q|q
   ·exact .inl (e.d i k q e.hk)
   ·exact .inr (e.d k i q y)
  refine(e.o i C N x G A).mono λq g=>⟨g,u q J J J (λf=>?_) (λf=>?_) (λf=>?_) λf=>?_⟩
  ·have:=e.bc _ f;omega
  ·have:=e.bf _ f;omega
  ·have:=j _ (.inl f);omega
  ·have:=j _ (.inr f);omega
def SJ.mono(d:SJ c s ch i S k p n0 cc cf ct es lo hi a b el t h)(y:hU 0 h')(l:h.size<=h'.size)(g:∀c,c<h.size->c≠5->c≠p->h'.get c=h.get c):SJ c s ch i S k p n0 cc cf ct es lo hi a b el t h':=by
 have F:=d.z;have D:=d.n7;have E:=d.np;have C:=d.m k d.hk;have⟨l1,q,n⟩:=d.gc;have⟨l2,r,o⟩:=d.gf;refine d.gen y l (λc u v w _ _ _ _=>g c u v w) ⟨l1,q.mono λe f=>?_,n⟩ ⟨l2,r.mono λe f=>?_,o⟩ (d.tx.Mn (au _) l λB j e f=>?_) d.xb
 ·have:=d.bc e f;exact g e J J J
 ·have:=d.bf e f;exact g e J J J
 ·have:=d.xb B j e f;have x:e<h.size:=by
   rcases j with rfl|rfl|j
   ·exact(d.tx.ba e f).2.1
   ·exact(d.tx.bb e f).2
   ·have⟨_,A⟩:=d.tx.el.left j;exact(A.2 e f).2.1
  exact g e x J J 
def SJ.cell(e:SJ c s ch i S k p n0 cc cf ct es lo hi a b el t h){f n q:Nat}{o:Bool}{u:List T}(v:dS cc=some f)(w:h.get f=some ⟨1,n,q,o,false,u⟩)(g:Nat)(j:Int):SJ c s ch i S k p n0 cc cf ct es lo hi a b el t (dY h f ⟨1,n,q+1,o,false,u.set g (Z j)⟩)/\∀d,d=5\/d=p->(dY h f ⟨1,n,q+1,o,false,u.set g (Z j)⟩).get d=h.get d:=by
 have I:=e.n7;have K:=e.np;have F:=e.bc f v;have G:=e.m k e.hk;have⟨l1,A,y⟩:=e.gc;have⟨l2,B,z⟩:=e.gf;have l:∀d,(dY h f ⟨1,n,q+1,o,false,u.set g (Z j)⟩).get d=if d=f then some ⟨1,n,q+1,o,false,u.set g (Z j)⟩else h.get d:=λd=>dN w _ d;refine⟨e.gen (e.ok.put _ _) (by rw[fJ];exact au _) (λd _ _ _ C _ _ _=>(l d).trans (ao λr=>C (by rw[r];exact v))) ⟨l1.set g j,?_,by simpa using y⟩ ⟨l2,B.mono λd r=>(l d).trans (ao λx=>(e.bf d r).2.2 (by rw[x];exact v)),z⟩ (e.tx.Mn (au _) (by rw[fJ];exact au _) λE D d r=>(l d).trans (ao λx=>?_)) e.xb,λd hr=>(l d).trans (ao J)⟩
 ·have:=A.setAt v w g (Z j) ((l f).trans (aq rfl));simpa[gG,bA]using this
 ·have:=e.xb E D d r;omega
def SJ.fut(e:SJ c s ch i S k p n0 cc cf ct es lo hi a b el t h){f n q:Nat}{o:Bool}{u:List T}(v:dS cf=some f)(w:h.get f=some ⟨1,n,q,o,false,u⟩)(g:Nat)(j:Int):SJ c s ch i S k p n0 cc cf ct es lo hi a b el t (dY h f ⟨1,n,q+1,o,false,u.set g (Z j)⟩)/\∀d,d=5\/d=p->(dY h f ⟨1,n,q+1,o,false,u.set g (Z j)⟩).get d=h.get d:=by
 have I:=e.n7;have K:=e.np;have y:=e.bf f v;have G:=e.m k e.hk;have⟨l1,B,z⟩:=e.gc;have⟨l2,C,A⟩:=e.gf;have l:∀d,(dY h f ⟨1,n,q+1,o,false,u.set g (Z j)⟩).get d=if d=f then some ⟨1,n,q+1,o,false,u.set g (Z j)⟩else h.get d:=λd=>dN w _ d;refine⟨e.gen (e.ok.put _ _) (by rw[fJ];exact au _) (λd _ _ _ _ D _ _=>(l d).trans (ao λr=>D (by rw[r];exact v))) ⟨l1,B.mono λd r=>(l d).trans (ao λx=>y.2.2 (by rw[<-x];exact r)),z⟩ ⟨l2.set g j,?_,by simpa using A⟩ (e.tx.Mn (au _) (by rw[fJ];exact au _) λF E d r=>(l d).trans (ao λx=>?_)) e.xb,λd hr=>(l d).trans (ao J)⟩
 ·have:=C.setAt v w g (Z j) ((l f).trans (aq rfl));simpa[gG,bA]using this
 ·have:=e.xb F E d r;omega
end
def wO{d k:Int}(h:mY d=k)(f:k≠0):(k=3->d=6\/d=7)/\(k=4->d=8\/d=9)/\(k=5->d=10)/\(k=22->d=26)/\(k=23->d=27):=by
 have g:6<=d/\d<=28:=by
  unfold mY at h;split at h
  ·exact absurd h.symm f
  ·omega
 have e:d=6\/d=7\/d=8\/d=9\/d=10\/d=11\/d=12\/d=13\/d=14\/d=15\/d=16\/d=17\/d=18\/d=19\/d=20\/d=21\/d=22\/d=23\/d=24\/d=25\/d=26\/d=27\/d=28:=J;rcases e with rfl|rfl|rfl|rfl|rfl|rfl|rfl|rfl|rfl|rfl|rfl|rfl|rfl|rfl|rfl|rfl|rfl|rfl|rfl|rfl|rfl|rfl|rfl<;>simp[mY,xG]at h<;>omega
def JZ(p:Nat)(d:fZ):Prop:=dF d 3 (.ptr 0 0 0 0)/\dF d 4 (.ptr 1 0 0 0)/\dF d 5 (.ptr 2 0 0 0)/\dF d 6 (.ptr 3 0 0 0)/\dF d 7 (.ptr 4 0 0 0)/\dF d 9 (.ptr 5 0 0 0)/\dF d 14 (.ptr p 0 0 0)/\dF d 15 (.ptr (p+1) 0 0 0)
def Ev9(d:ej)(h:H):Prop:=∃e f,h.get 5=some (dE 7 f [ej.t ⟨d.dP,d.kind,d.obj,e,d.ji,d.mt,d.uN⟩])
def Th9(p:Nat)(a b:T)(e f:Int)(h:H):Prop:=∃d,h.get p=some (dE 4 d [.agg [Z e,a,b,Z f]])
def SJ.NE{c:jU}{s:iO}{ch:gF}{i:fR}{S:fH}{k p n0:Nat}{cc cf ct:T}{es:List T}{lo hi:Nat->Nat}{a b:T}{el:List T}{t:eG}{h:H}(e:SJ c s ch i S k p n0 cc cf ct es lo hi a b el t h){u:iX}(j:h.get 5=some u){l m:Int}(ht:Th9 p a b l m h)(d:ej)(f:Int)(g:Nat):
 SJ c s ch i S k p n0 cc cf ct es lo hi a b el t (dY h 5 (dE 7 g [ej.t ⟨d.dP,d.kind,d.obj,f,d.ji,d.mt,d.uN⟩]))/\Ev9 d (dY h 5 (dE 7 g [ej.t ⟨d.dP,d.kind,d.obj,f,d.ji,d.mt,d.uN⟩]))/\Th9 p a b l m (dY h 5 (dE 7 g [ej.t ⟨d.dP,d.kind,d.obj,f,d.ji,d.mt,d.uN⟩])):=by
 have v:=e.n7;have w:=e.np;obtain⟨r,o⟩:=ht;exact⟨e.mono (e.ok.put _ _) (by rw[fJ];exact au _) λq _ n _=>(dN j _ q).trans (ao n),⟨f,g,(dN j _ 5).trans (aq rfl)⟩,⟨r,(dN j _ p).trans ((ao J).trans o)⟩⟩
def agC(p:Nat)(ct:T)(m:Int)(h:H):Prop:=∃j d e l g n,h.get p=some (dE 4 n [.agg [Z j,d,e,Z l]])/\d.ir=true/\d.cells=[d]/\e.ir=true/\e.cells=[e]/\iF (FT h (λf=>f<h.size/\f≠p/\7<=f/\dS ct≠some f) 3) [Z j,d,e,Z l] (eG.cs g)/\WP 1000000 g/\(g.dJ=m+1\/g.dJ=0)
def IC:oa prog cx 134 (λa:jU×iO×gF=>[a.1.t,a.2.1.t,a.2.2.t]) (λa=>(∀x∈a.1.dH,x.jm.length<=10000001)/\StI a.2.1/\Yz 999000 a.2.1) (λa=>abu a.2.1):=by
 refine yV (tb:=⟨pt [(156,AV.jA),(51,rf)],ht [(176,jI iO XE Qi),(177,jI Zk PV Dc)]⟩) iL iB (iQ 12259964349774246101165194645239424850975965214878597119 [(41,[(1,2)])] func134) (λ_=>100) (λa b h=>by simp at h;exact aC (jU.inj h.1) (aC (iO.inj h.2.1) (gF.inj h.2.2))) dy nl9 ?_;rintro⟨c,s,ch⟩ ⟨gm,I,gk⟩ bu hq;simp only at gm I gk;simp at hq;obtain⟨kn,ap,av⟩:=hq;have la:abr 1000000 s:=λt ht l hl=>((I.t t ht).tn l hl).1;obtain⟨_,⟨u,hN,rfl,k6,hF⟩,ha⟩:=AV.use (c,s,ch.dP) ⟨gm,la⟩;simp only at ha hF;have hD:abu s (.tuple [iO.t ⟨⟨[],0,[],[]⟩,[],[],[]⟩,ej.t ⟨0,0,0,0,0,[],[]⟩,.bool false]):=⟨_,_,_,rfl,⟨dy,dy⟩,dy⟩;simp[f134,kn,ap,av,ha];cases hN with
 |false=>
  simp;exact hD
 |true=>
 have⟨t,x,i,Y⟩:=hF rfl;have⟨pE,qb⟩:=Ju Y.f.v;have k9:Pt s.fj:=⟨by have:=I.l;omega,by have:=I.l;omega,by have:=I.l;omega,λl hl=>by have:=I.r.len I.a l hl;omega,I.a⟩;have gV:rl prog cx ⟨pt [(156,AV.jA),(51,rf)],ht [(176,jI iO XE Qi),(177,jI Zk PV Dc)]⟩ 51 [c.ez.t,s.fj.t,Z ch.dP,Z u.kind,Z u.obj,Z ch.wc]=some (yP (c.ez,s.fj,ch.dP,u.kind,u.obj,ch.wc)):=
  gu dy FR (c.ez,s.fj,ch.dP,u.kind,u.obj,ch.wc) ⟨dA,k9⟩
 cases gi:js c.ez s.fj ch.dP u.kind u.obj with
 |false=>
  simp[gV,yP,gi];exact hD
 |true=>
 simp[gV,yP,gi];generalize k2:fg c.ez s.fj ch.dP u.kind u.obj ch.wc=h8 at*
 obtain⟨S,W⟩:=h8;simp;have hl:=I.l;generalize bS:H.cons _ _=b6;have hM:hU 0 b6:=by rw[<-bS];exact⟨dy,dy,dy⟩
 have nu:b6.size=7:=by rw[<-bS];rfl
 have m1:b6.get 0=some (dE 7 0 [c.t]):=by rw[<-bS];simp
 have m2:b6.get 1=some (dE 7 0 [s.t]):=by rw[<-bS];simp
 have m3:b6.get 2=some (dE 2 0 [ch.t]):=by rw[<-bS];simp
 have m4:b6.get 3=some (dE 7 0 [.agg [dD,Z 0,dD,dD,dD,dD,dD]]):=by rw[<-bS];simp
 have m5:b6.get 4=some (dE 7 0 [.agg [Z 0,Z 0,Z 0,Z 0,Z 0,dD,dD]]):=by rw[<-bS];simp
 have nk:b6.get 5=some (dE 7 1 [u.t]):=by rw[<-bS];simp
 have nn:b6.get 6=some (dE 4 1 [S.t]):=by rw[<-bS];simp
 clear bS;refine iy Q5 dy s ⟨rfl,hM,⟨rfl,hM,J,J,J,λl q=>by have:=I.r.len I.a l q;omega⟩,J,J,J,λU ef=>⟨by have:=(I.t U ef).rl;omega,by have:=(I.t U ef).tl;omega,λl q=>((I.t U ef).tn l q).1⟩⟩ ?_;rintro _ dd ⟨nB,nE,nF,cc,cf,ct,es,lo,hi,n0,rfl,F⟩;have nr:=F.nb.ok.sz;have h5:=F.z;rw[nu]at nr h5;have a1:=(F.nb.get 1 J).trans m2;have h7:=(F.nb.get 6 J).trans nn;have a2:=(F.nb.get 2 J).trans m3;have a0:=(F.nb.get 0 J).trans m1;have⟨eN,n8,eO,c7,c9,n9⟩:=F.k0;have p1:∀y,(dY dd 1 y).get 1=some y:=λy=>(dN a1 y _).trans (aq rfl);have p6:∀y,(dY dd 1 y).get 6=dd.get 6:=λy=>(dN a1 y _).trans (ao J);simp[a1,dX,p1,p6,h7];generalize eB:dY (dY dd 1 _) 1 _=B;have qc:B.size=dd.size:=by rw[<-eB];simp
 have lw:hU 0 dd:=⟨F.nb.ok.hp,F.nb.ok.low,aw _⟩;have okB:hU 0 B:=by rw[<-eB];exact(lw.put _ _).put _ _
 have hQ:=(show B.get 1=some (dE 7 2 [.agg [sl (S.ei.map dU.t),Z S.tx,sl (S.done.map T.bool),sl (S.dH.map dM.t),cc,cf,ct]])by rw[<-eB];exact(dN (p1 _) _ _).trans (aq rfl));have c1:∀k,k≠1->B.get k=dd.get k:=λk b7=>by rw[<-eB,dN (p1 _),ao b7,dN a1,ao b7]
 clear eB p1 p6;have hP:=(c1 0 J).trans a0;have hR:=(c1 2 J).trans a2;have lT:=(c1 5 J).trans ((F.nb.get 5 J).trans nk);have lR:=(c1 3 J).trans ((F.nb.get 3 J).trans m4);have lS:=(c1 4 J).trans ((F.nb.get 4 J).trans m5);have M:=F.th.mono (h':=B) J λk b7 _=>c1 k J;have b7:=Y.n;rw[<-Y.f.th]at b7;have⟨e6,X⟩:=eQ.1 b7;have cL:=Y.ht;have gg:∃hb,es[ch.dP.toNat]? =some hb:=⟨_,az (by rw[M.l];exact X)⟩;obtain⟨hb,eW⟩:=gg;obtain⟨a,b,el,rfl,ff⟩:=M.e _ _ _ eW cL;have⟨E,hd,h3,ext,h4,t1,t2,t3,t4⟩:=M.g.B0 (te:=LW) rfl (i:=ch.dP.toNat) (by rw[M.l];exact X);rw[show es[ch.dP.toNat]'(by rw[M.l];exact X)=Ce t a b by rw[az (by rw[M.l];exact X)]at eW;simpa using eW]at t4;have ic:=okB.low;have nv:∀k,k<7->(k=B.size)=False:=λk b7=>by simp;omega
 have qL:∀k,k<7->(k=B.size+1)=False:=λk b7=>by simp;omega
 have aE:=Y.hx;have hC:=Y.hi;have⟨lE,pc,pd,pm⟩:=Y.f.t _ _ _ cL aE;have l9:=em lE;simp[hP,hQ,hR,t2,t3,t4,Ce,ic,em e6,nv,aE,hC,l9];have o2:B.size<B.size+1:=J;generalize ec:dY ((B.cons _).cons _) (B.size+1) _=bi;have qe:bi.size=B.size+1+1:=by rw[<-ec,fJ];rfl
 have lB:hU 0 bi:=by rw[<-ec];exact((okB.cons _).cons _).put _ _
 have hX:bi.get B.size=some (dE 4 1 [.agg [Z t.pC,a,b,Z t.dJ]]):=by rw[<-ec,mr ((okB.cons _).cons _).hp (by show _<B.size+1+1;omega),ao J,dT,ao (by show¬_=B.size+1;omega),dT,aq rfl]
 have lX:bi.get (B.size+1)=some (dE 6 1 [i.t]):=by rw[<-ec,mr ((okB.cons _).cons _).hp (by show _<B.size+1+1;omega),aq rfl]
 have hW:∀k,k<B.size->bi.get k=B.get k:=λk b7=>by
  rw[<-ec,mr ((okB.cons _).cons _).hp (by show _<B.size+1+1;omega),ao J,dT,ao (by show¬_=B.size+1;omega),dT,ao J]
 clear ec;have r5:=(hW 5 J).trans lT;have kb:∀y,(dY bi 5 y).get 5=some y:=λy=>(dN r5 y _).trans (aq rfl);simp[hX,r5,oN,kb];have lD:hU 0 (dY bi 5 (dE 7 2 [ej.t ⟨u.dP,u.kind,u.obj,W,u.ji,u.mt,u.uN⟩])):=lB.put _ _;have eR:∀k,(dY bi 5 (dE 7 2 [ej.t ⟨u.dP,u.kind,u.obj,W,u.ji,u.mt,u.uN⟩])).get k=_:=λk=>dN r5 _ k;have qE:(dY bi 5 (dE 7 2 [ej.t ⟨u.dP,u.kind,u.obj,W,u.ji,u.mt,u.uN⟩])).size=bi.size:=fJ ..;generalize dY bi 5 (dE 7 2 [ej.t ⟨u.dP,u.kind,u.obj,W,u.ji,u.mt,u.uN⟩])=bn at*
 have oC:ch.dP.toNat<s.dH.length:=X;have⟨pe,pD,o3,_,gE,gI,_,gM,_,_,hZ,_⟩:=I9 Y.f Y.n;rw[cL]at gE;rw[aE]at gI;simp only[ar]at gE gI;subst gE;subst gI;rw[hC]at gM;simp only[ar]at gM;subst gM;have eD:∀K:Int,u.kind=K->K≠1->K≠17->K≠0->mY i.op=K:=λK ap av a8 cy=>by
  rcases Y.k with q|q|q
  ·omega
  ·omega
  ·omega
 have gj:=gi;unfold js at gj;simp only[ax]at gj;have e4:=gj.1.2;have hA:u.kind=3\/u.kind=4->iP u.obj s.cells.length=true:=λq=>by
  rw[Y.f.cl];unfold jN at e4;rcases q with q|q<;>simpa[q]using e4
 have hB:u.kind=22\/u.kind=23->iP u.obj s.d8.length=true:=λq=>by
  rw[Y.f.fu];unfold jN at e4;rcases q with q|q<;>simpa[q]using e4
 have hS:u.kind=3\/u.kind=23\/u.kind=5->0<=i.a/\i.a<x.iY:=λq=>by
  refine hZ _ ?_;unfold jd;rcases q with q|q|q
  ·rcases(wO (eD 3 q J J J) J).1 rfl with k|k<;>simp[k]
  ·simp[(wO (eD 23 q J J J) J).2.2.2.2 rfl]
  ·simp[(wO (eD 5 q J J J) J).2.2.1 rfl]
 have hV:u.kind=4\/u.kind=22->0<=i.b/\i.b<x.iY:=λq=>by
  refine hZ _ ?_;unfold jd;rcases q with q|q
  ·rcases(wO (eD 4 q J J J) J).2.1 rfl with k|k<;>simp[k]
  ·simp[(wO (eD 22 q J J J) J).2.2.2.1 rfl]
 have O:SJ c s ch i S ch.dP.toNat B.size n0 cc cf ct es lo hi a b el t bn:=by
  have bT:∀k,k<B.size->k≠5->bn.get k=B.get k:=λk ap av=>(eR k).trans ((ao av).trans (hW k ap));have o4:=M.m _ X;have lu:n0<=B.size:=by have:=F.zn;omega
  refine⟨lD,J,h5,lu,(bT 0 J J).trans hP,(bT 1 J J).trans hQ,(bT 2 J J).trans hR,(bT 3 J J).trans lR,(bT 4 J J).trans lS,?_,
   ⟨_,F.gc.mono λq x=>?_,dy⟩,⟨_,F.gf.mono λq x=>?_,dy⟩,λq x=>?_,λq x=>?_,M.g.mono λq x=>?_,M.l,M.m,M.d,λq x=>?_,λj u U eX gg ef=>?_,X,⟨_,_,eW⟩,ff.Mn J J λv e5 q x=>?_,λv e5 q x=>?_⟩
  ·exact(eR _).trans ((ao J).trans lX)
  ·have:=F.bc q x;exact(bT q J J).trans (c1 q J)
  ·have:=F.bf q x;exact(bT q J J).trans (c1 q J)
  ·have:=F.bc q x;omega
  ·have:=F.bf q x;exact⟨J,this.2.1,this.2.2⟩
  ·have⟨_,_,_,_,g,_⟩:=M.g.box x;have:=(M.c q x).1;exact bT q (H.fa g) J
  ·have⟨_,_,_,_,g,_⟩:=M.g.box x;exact⟨(M.c q x).1,H.fa g,(M.c q x).2⟩
  ·obtain⟨fo,fs,Pd,rfl,mb⟩:=M.e j u U gg ef;have lh:=M.m j (List.getElem?_eq_some_iff.1 ef).1;exact .inr (.inr ⟨_,_,rfl,(mb.mono (h':=bn) (au _) (au _) λq ap av=>bT q J J).fz _ λq ap av=>⟨ap,av⟩,rfl⟩)
  all_goals
   have hv:lo ch.dP.toNat<=q/\q<hi ch.dP.toNat:=by
    rcases e5 with rfl|rfl|e5
    ·have:=ff.ba q x;omega
    ·exact ff.bb q x
    ·have⟨_,w⟩:=ff.el.left e5;have:=w.2 q x;exact⟨this.1,this.2.1⟩
  ·exact bT q J J
  ·exact⟨hv.1,.inl hv.2⟩
 refine Tq (λbu h=>JZ B.size bu/\(∃n,dF bu 16 (Z n))/\SJ c s ch i S ch.dP.toNat B.size n0 cc cf ct es lo hi a b el t h/\Ev9 u h/\Th9 B.size a b t.pC t.dJ h) ?_ ?_
 ·have R:=(eR 5).trans (aq rfl);have eb:=(eR B.size).trans ((ao J).trans hX);have eL:Ev9 u bn:=⟨W,2,R⟩;have b9:Th9 B.size a b t.pC t.dJ bn:=⟨1,eb⟩;cases nX:decide (u.kind=1)with
  |true=>
   simp[eb,JZ];exact⟨O,eL,b9⟩
  |false=>
  cases cb:decide (u.kind=16)with
  |true=>
   simp[cb,eb,JZ];exact⟨O,eL,b9⟩
  |false=>
  cases c4:decide (u.kind=2)with
  |true=>
   simp[cb,c4,eb,JZ];exact⟨O,eL,b9⟩
  |false=>
  cases c6:decide (u.kind=3)with
  |true=>
   have⟨l1,bX,b8⟩:=O.gc;have bs:=eQ.1 (hA (.inl (by simpa using c6)));have⟨p1,Q,bB⟩:=(show pK bn 1 cc (gG l1)from .inr bX).idx (te:=H5) rfl rfl (i:=u.obj.toNat) (x:= Z l1[u.obj.toNat]) (by simp[b8,bs.2]) rfl;simp[cb,c4,c6,R,O.b1,em bs.1,Q,bB,JZ];exact O.NE R b9 u _ _
  |false=>
  cases dv:decide (u.kind=23)with
  |true=>
   have⟨l1,bX,b8⟩:=O.gf;have bs:=eQ.1 (hB (.inr (by simpa using dv)));have⟨p1,Q,bB⟩:=(show pK bn 1 cf (gG l1)from .inr bX).idx (te:=H5) rfl rfl (i:=u.obj.toNat) (x:= Z l1[u.obj.toNat]) (by simp[b8,bs.2]) rfl;simp[cb,c4,c6,dv,R,O.b1,em bs.1,Q,bB,JZ];exact O.NE R b9 u _ _
  |false=>
  have fC:pK bn 1 a (gG t.iY):= .inr O.tx.ga;have fe:∀x y:Int,mK (Z x) 0 [Z y]=some (Z y):=λx y=>rfl;cases ea:decide (u.kind=4)with
  |true=>
   have gD:=hV (.inl (by simpa using ea));have bs:=eQ.1 (hA (.inr (by simpa using ea)));have⟨p1,Q,bB⟩:=fC.idx (te:=H5) rfl rfl (i:=i.b.toNat) (x:= Z t.iY[i.b.toNat]) (by simp[show i.b.toNat<t.iY.length by omega]) rfl;have⟨aN,aX,t5⟩:=O.NE R b9 u t.iY[i.b.toNat] 3;have c9:=(dN R (dE 7 3 [ej.t ⟨u.dP,u.kind,u.obj,t.iY[i.b.toNat],u.ji,u.mt,u.uN⟩]) 5).trans (aq rfl);simp[cb,c4,c6,dv,ea,R,eb,O.bq,em gD.1,Q,bB,JZ];generalize dY bn 5 (dE 7 3 [ej.t ⟨u.dP,u.kind,u.obj,t.iY[i.b.toNat],u.ji,u.mt,u.uN⟩])=aA at*
   have⟨l1,bX,b8⟩:=aN.gc;have⟨q,an,mq,hf,mC,gy,gz,eF,eH⟩:=bX.B0 (te:=H5) rfl (i:=u.obj.toNat) (by simpa[b8]using bs.2);simp at eH;have⟨gw,ey⟩:=aN.cell gy eF u.obj.toNat t.iY[i.b.toNat];simp[aN.b1,c9,em bs.1,gz,eF,eH,fe];obtain⟨gQ,gS,gv⟩:=aX;obtain⟨eo,dk⟩:=t5;exact⟨gw,⟨gQ,gS,(ey 5 (.inl rfl)).trans gv⟩,eo,(ey _ (.inr rfl)).trans dk⟩
  |false=>
  cases et:decide (u.kind=22)with
  |true=>
   have gD:=hV (.inr (by simpa using et));have bs:=eQ.1 (hB (.inl (by simpa using et)));have⟨p1,Q,bB⟩:=fC.idx (te:=H5) rfl rfl (i:=i.b.toNat) (x:= Z t.iY[i.b.toNat]) (by simp[show i.b.toNat<t.iY.length by omega]) rfl;have⟨aN,aX,t5⟩:=O.NE R b9 u t.iY[i.b.toNat] 3;have c9:=(dN R (dE 7 3 [ej.t ⟨u.dP,u.kind,u.obj,t.iY[i.b.toNat],u.ji,u.mt,u.uN⟩]) 5).trans (aq rfl);simp[cb,c4,c6,dv,ea,et,R,eb,O.bq,em gD.1,Q,bB,JZ];generalize dY bn 5 (dE 7 3 [ej.t ⟨u.dP,u.kind,u.obj,t.iY[i.b.toNat],u.ji,u.mt,u.uN⟩])=aA at*
   have⟨l1,bX,b8⟩:=aN.gf;have⟨q,an,mq,hf,mC,gy,gz,eF,eH⟩:=bX.B0 (te:=H5) rfl (i:=u.obj.toNat) (by simpa[b8]using bs.2);simp at eH;have⟨gw,ey⟩:=aN.fut gy eF u.obj.toNat t.iY[i.b.toNat];simp[aN.b1,c9,em bs.1,gz,eF,eH,fe];obtain⟨gQ,gS,gv⟩:=aX;obtain⟨eo,dk⟩:=t5;exact⟨gw,⟨gQ,gS,(ey 5 (.inl rfl)).trans gv⟩,eo,(ey _ (.inr rfl)).trans dk⟩
  |false=>
  cases fA:decide (u.kind=5)with
  |false=>
   simp[cb,c4,c6,dv,ea,et,fA,JZ];exact⟨O,eL,b9⟩
  |true=>
   have fb:=hS (.inr (.inr (by simpa using fA)));have⟨p1,Q,bB⟩:=fC.idx (te:=H5) rfl rfl (i:=i.a.toNat) (x:= Z t.iY[i.a.toNat]) (by simp[show i.a.toNat<t.iY.length by omega]) rfl;have⟨aN,aX,t5⟩:=O.NE R b9 u 1 3;have c9:=(dN R (dE 7 3 [ej.t ⟨u.dP,u.kind,u.obj,1,u.ji,u.mt,u.uN⟩]) 5).trans (aq rfl);simp[cb,c4,c6,dv,ea,et,fA,R,JZ];generalize dY bn 5 (dE 7 3 [ej.t ⟨u.dP,u.kind,u.obj,1,u.ji,u.mt,u.uN⟩])=aA at*
   have⟨p1,Q,bB⟩:=(show pK aA 1 a (gG t.iY)from .inr aN.tx.ga).idx (te:=H5) rfl rfl (i:=i.a.toNat) (x:= Z t.iY[i.a.toNat]) (by simp[show i.a.toNat<t.iY.length by omega]) rfl;obtain⟨eo,dk⟩:=t5;have⟨hH,mm,t6⟩:=aN.NE c9 ⟨eo,dk⟩ u 0 4;have ib:=hH.bq;simp[dk,aN.bq,em fb.1,Q,bB];refine ee (λq=>?_) (λq=>?_)
   ·simp[c9,ib];exact⟨hH,mm,t6⟩
   ·simp;exact⟨aN,aX,eo,dk⟩
 ·rintro bu h ⟨⟨a8,cy,aA,bC,bH,bN,a7,cp⟩,⟨dm,eU⟩,A,⟨v,aX,a6⟩,ca,an⟩;simp[bN,a6];have pb:=A.ok;refine kQ (λbu h=>JZ B.size bu/\(∃n,dF bu 16 (Z n))/\∃Pd t',t'.pC=t.pC/\t'.dJ=t.dJ/\WP 1000000 t'/\SJ c s ch i S ch.dP.toNat B.size n0 cc cf ct es lo hi a b Pd t' h/\Ev9 u h/\Th9 B.size a b t.pC t.dJ h) (λG=>?_) (λG=>?_) ?_
  ·have fb:=hS (by simpa[or_assoc]using(by simpa using G:u.kind=3\/u.kind=23).elim .inl λq=> .inr (.inl q));have oD:el.length=t.kf.length:=A.tx.el.length;have kp:i.a.toNat<t.iY.length:=J;have kB:i.a.toNat<el.length:=J;have⟨ae,jC,mx,jZ,m0,eC,kD,fY,hs⟩:=A.tx.ga.B0 (te:=H5) rfl (i:=i.a.toNat) (by simpa using kp);simp at hs;have fe:∀x y:Int,mK (Z x) 0 [Z y]=some (Z y):=λx y=>rfl;have lp:=A.n7;have pa:=A.np;have o1:=A.z;have hy:=A.tx.ba ae eC;have oW:=A.xb a (.inl rfl) ae eC;have oE:=A.m _ A.hk;simp[bN,a7,cp,an,a6,A.bq,em fb.1,kD,fY,hs,fe];generalize lg:iX.mk 1 jC (mx+1) jZ false (m0.set i.a.toNat (Z v))=dn at*
   have er:∀w,(dY h ae dn).get w=if w=ae then some dn else h.get w:=λw=>dN fY dn w;have lv:hU 0 (dY h ae dn):=A.ok.put _ _;have qa:(dY h ae dn).size=h.size:=fJ ..;have ie:=(er B.size).trans ((ao J).trans an);have ih:=(er (B.size+1)).trans ((ao J).trans A.bq);have n2:=(er 5).trans ((ao J).trans a6);generalize oB:dY h ae dn=L at*
   have eS:Gr L b 1 el:=A.tx.gb.mono λw hr=>(er w).trans (ao λx=>hy.2.2 (by rw[<-x];exact hr));have⟨al,eu,fi,eM,fl,de,k3,eV,gd⟩:=(eS.mono (h':=L.cons (dE 1 0 [Z t.dJ])) λw hr=>by rw[dT,ao (by have:=(A.tx.bb w hr).2;omega)]).B0 (te:=pS) rfl (i:=i.a.toNat) kB;have⟨n1,k5,lW⟩:=A.tx.el.get (az (show i.a.toNat<t.kf.length by omega));have l7:=Km (x:= .arr L.size 0 0 1 false) lW.1.na;replace gd:=gd.trans ((az _).symm.trans k5);have k4:b= .arr al eu 0 el.length false:=by
    have⟨_,_,_,_,q,u⟩:=(eS.mono (h':=L.cons (dE 1 0 [Z t.dJ])) λw hr=>by rw[dT,ao (by have:=(A.tx.bb w hr).2;omega)]).box de;rw[eV]at q;simp at q;rw[u,q.1]
   simp[a7,cp,eU,ie,ih,em fb.1,k3,eV,gd,l7];have ov:=A.tx.bb al de;have o0:=A.xb b (.inr (.inl rfl)) al de;have k1:ae≠al:=λq=>hy.2.2 (by rw[q];exact de);have lC:hU 0 (dY (L.cons (dE 1 0 [Z t.dJ])) al ⟨1,eu,fi+1,eM,false,fl.set i.a.toNat (.arr L.size 0 0 1 false)⟩):=(lv.cons _).put _ _;have qw:(dY (L.cons (dE 1 0 [Z t.dJ])) al ⟨1,eu,fi+1,eM,false,fl.set i.a.toNat (.arr L.size 0 0 1 false)⟩).size=h.size+1:=by rw[fJ];show L.size+1=_;omega
   have eI:∀w,(dY (L.cons (dE 1 0 [Z t.dJ])) al ⟨1,eu,fi+1,eM,false,fl.set i.a.toNat (.arr L.size 0 0 1 false)⟩).get w=if w=al then some ⟨1,eu,fi+1,eM,false,fl.set i.a.toNat (.arr L.size 0 0 1 false)⟩else if w=L.size then some (dE 1 0 [Z t.dJ])else if w=ae then some dn else h.get w:=λw=>(dN eV _ w).trans (by rw[dT,er]);generalize dY (L.cons _) al _=fS at*
   have kg:=(eS.mono (h':=L.cons (dE 1 0 [Z t.dJ])) λw hr=>by rw[dT,ao (by have:=(A.tx.bb w hr).2;omega)]).setAt de eV i.a.toNat (.arr L.size 0 0 1 false) (h':=fS) ((eI al).trans (aq rfl));have kd:=A.tx.ga.setAt eC fY i.a.toNat (Z v) (h':=fS) ((eI ae).trans ((ao k1).trans ((ao J).trans ((aq rfl).trans (by rw[lg])))));have ds:∀w,w<h.size->w≠ae->w≠al->fS.get w=h.get w:=λw ap av a8=>(eI w).trans ((ao a8).trans ((ao J).trans (ao av)));have ii:∀w,dS a=some w->w=ae:=λw hr=>by rw[eC]at hr;simpa using hr.symm
   have jj:∀w,dS b=some w->w=al:=λw hr=>by rw[de]at hr;simpa using hr.symm
   have oA:=gk t (ay cL);have gn:=I.t t (ay cL);have e9:∀w,dS a≠some w->dS b≠some w->w≠ae/\w≠al:=λw ap av=>⟨λx=>ap (by rw[x];exact eC),λx=>av (by rw[x];exact de)⟩;refine⟨by simp[JZ,a8,cy,aA,bC,bH,bN,a7,cp],el.set i.a.toNat (.arr L.size 0 0 1 false),⟨t.pC,t.iY.set i.a.toNat v,t.kf.set i.a.toNat [t.dJ],t.dJ⟩,rfl,rfl,⟨by simpa using gn.rl,by simpa using gn.tl,λl hl=>?_⟩,
    A.gen lC J (λw ap av a8 _ _ bC bH=>ds w ap (e9 w bC bH).1 (e9 w bC bH).2) ?_ ?_ ⟨by simpa[gG,bA]using kd,kg,A.tx.el.set i.a.toNat ⟨.inr ?_,λw hr=>?_⟩ λu l q=>⟨q.1.mono λw hr=>?_,λw hr=>?_⟩,λw hr=>?_,λw hr=>?_⟩ λW hw w hr=>?_,⟨v,aX,(ds 5 J J J).trans a6⟩,ca,(ds _ J J J).trans an⟩
   ·rcases cA hl with q|rfl
    ·exact gn.tn l q
    ·exact⟨dy,λx aE=>by simp at aE;subst aE;omega⟩
   ·have⟨l1,eN,Q⟩:=A.gc;exact⟨l1,eN.mono λw hr=>by have:=A.bc w hr;exact ds w J J J,Q⟩
   ·have⟨l1,eN,Q⟩:=A.gf;exact⟨l1,eN.mono λw hr=>by have:=A.bf w hr;exact ds w J J J,Q⟩
   ·have:=Gr.new ((eI L.size).trans ((ao J).trans (aq rfl)));simpa using this
   ·simp at hr;subst hr;exact⟨J,J,λq=>by have:=ii _ q;omega,λq=>by have:=jj _ q;omega⟩
   ·have⟨X,hI,e7,e8⟩:=q.2 w hr;exact ds w hI (e9 w e7 e8).1 (e9 w e7 e8).2
   ·have⟨X,hI,e7,e8⟩:=q.2 w hr;exact⟨X,J,e7,e8⟩
   ·have:=A.tx.ba w hr;exact⟨this.1,J,this.2.2⟩
   ·have:=A.tx.bb w hr;exact⟨this.1,J⟩
   ·rcases hw with rfl|rfl|hw
    ·exact A.xb _ (.inl rfl) w hr
    ·exact A.xb _ (.inr (.inl rfl)) w hr
    ·rcases cA hw with q|rfl
     ·exact A.xb W (.inr (.inr q)) w hr
     ·simp at hr;subst hr;omega
  ·simp[JZ,a8,cy,aA,bC,bH,bN,a7,cp,eU];exact⟨el,t,rfl,rfl,I.t _ (ay cL),A,⟨v,aX,a6⟩,ca,an⟩
  rintro bu h ⟨⟨a8,cy,aA,bC,bH,bN,a7,cp⟩,⟨dm,eU⟩,Pd,t',oT,oV,eh,A,⟨v,aX,a6⟩,ca,an⟩;have eA:∀y,(dY h B.size y).get B.size=some y:=λy=>(dN an y _).trans (aq rfl);have hj:∀y,∀q,q<7->(dY h B.size y).get q=h.get q:=λy q G=>(dN an y _).trans (ao J);have hh:∀y C,(dY (dY h B.size y) B.size C).get B.size=some C:=λy C=>(dN (eA y) C _).trans (aq rfl);have fL:∀y C,∀q,q<7->(dY (dY h B.size y) B.size C).get q=h.get q:=λy C q G=>(dN (eA y) C _).trans ((ao J).trans (hj y q G));simp[bN,a7,eU,a6,an,oN,dX,eA,fL];have k4:=gk t (ay cL);have lc:IntKind.i64.wrap (t.dJ+1)=t.dJ+1:=by rw[<-jE,jK J J]
  rw[lc];have N7:hU 0 (dY (dY h B.size (dE 4 (ca+1) [.agg [Z t.pC,a,b,Z (t.dJ+1)]])) B.size ⟨4,0,ca+1+1,true,false,[.agg [Z dm,a,b,Z (t.dJ+1)]]⟩):=(A.ok.put _ _).put _ _;have D:=A.mono N7 (by rw[fJ,fJ];exact au _) λq _ _ G=>by rw[dN (eA _),ao G,dN an,ao G]
  have gZ:=(fL (dE 4 (ca+1) [.agg [Z t.pC,a,b,Z (t.dJ+1)]]) ⟨4,0,ca+1+1,true,false,[.agg [Z dm,a,b,Z (t.dJ+1)]]⟩ 5 J).trans a6;have gB:=hh (dE 4 (ca+1) [.agg [Z t.pC,a,b,Z (t.dJ+1)]]) ⟨4,0,ca+1+1,true,false,[.agg [Z dm,a,b,Z (t.dJ+1)]]⟩;generalize dY (dY h B.size _) B.size _=hn at*
  clear eA hj hh fL A an a6;refine kQ (λbu h=>JZ B.size bu/\SJ c s ch i S ch.dP.toNat B.size n0 cc cf ct es lo hi a b Pd t' h/\Ev9 u h/\agC B.size ct t.dJ h) (λG=>?_) (λG=>?_) ?_
  ·have lb:=ay aE;simp[a8,aA,a7,D.b0,D.b2,em e6,aE,gB];refine iy Qz dy ⟨x,⟨dm,t'.iY,t'.kf,t.dJ+1⟩,a,b,Pd,7,hn.size,1000000⟩ ⟨rfl,D.tx.same rfl rfl,au _,N7,⟨eh.rl,eh.tl,eh.tn⟩,au _,gm x lb⟩ ?_;rintro _ hE ⟨U,hN,rfl,gP,hY,qo,fB,hL⟩;have qi:=D.z;have hO:=(fB B.size J).trans gB;have fE:∀y,∀q,(dY hE B.size y).get q=if q=B.size then some y else hE.get q:=λy q=>dN hO y q;simp[JZ,a8,cy,aA,bC,bH,bN,a7,cp,hO,dX];have h6:=D.mono (h':=hE) hL J λq G _ _=>fB q G;refine⟨h6.mono (hL.put _ _) (by rw[fJ];exact au _) λq _ _ G=>(fE _ q).trans (ao G),⟨v,aX,(fE _ 5).trans ((ao J).trans ((fB 5 J).trans gZ))⟩,U.pC,sl (gG U.iY),sl (U.kf.map tn1),U.dJ,U,_,(fE _ _).trans (aq rfl),dy,dy,dy,dy,?_,gP,hY⟩;exact .cons (fV ..) (.cons (pQ _ _ _ λx aE=>(I8 _ x aE).1) (.cons (pQ _ _ _ λx aE=>by obtain⟨l,_,rfl⟩:=List.mem_map.1 aE;simp[tn1]) (.cons (fV ..) .nil)))
  ·simp[JZ,a8,cy,aA,bC,bH,bN,a7,cp];refine⟨D,⟨v,aX,gZ⟩,_,_,_,_,⟨dm,t'.iY,t'.kf,t.dJ+1⟩,_,gB,D.tx.ga.ir,D.tx.ga.cells,D.tx.gb.ir,D.tx.gb.cells,(D.tx.same (s':=⟨dm,t'.iY,t'.kf,t.dJ+1⟩) rfl rfl).fzB _ λW hw q x=>?_,⟨eh.rl,eh.tl,eh.tn⟩,.inl rfl⟩;have ps:=D.xb W hw q x;have pu:=D.m _ D.hk;have px:=D.n7;have mA:q<hn.size:=by
    rcases hw with rfl|rfl|hw
    ·exact(D.tx.ba q x).2.1
    ·exact(D.tx.bb q x).2
    ·have⟨_,w⟩:=D.tx.el.left hw;exact(w.2 q x).2.1
   exact⟨mA,J,J,λy=>by have:=D.bt q y;have:=this.2.2 _ D.hk;omega⟩
  rintro bu h ⟨⟨a8,cy,aA,bC,bH,bN,a7,cp⟩,A,⟨v,aX,a6⟩,hJ,fo,fs,hK,U,pn,lG,og,oi,eS,oj,mj,gP,hY⟩;have⟨E,hd,h3,ext,h4,t1,t2,t3,t4⟩:=A.gt.B0 (te:=LW) rfl (i:=ch.dP.toNat) (by rw[A.l];exact X);have⟨hf,n5,k7⟩:=A.ek;replace t4:=t4.trans ((az _).symm.trans k7);have nA:=A.bt E t1;have⟨l1,bX,b8⟩:=A.gc;have⟨l2,kk,k8⟩:=A.gf;generalize hG:iX.mk 4 hd (h3+1) ext false (h4.set ch.dP.toNat (.agg [Z hJ,fo,fs,Z hK]))=P;have hg:∀q,(dY h E P).get q=if q=E then some P else h.get q:=λq=>dN t3 P q;have eP:∀q,q<7->(dY h E P).get q=h.get q:=λq G=>(hg q).trans (ao J);have h9:=(eP 1 J).trans A.b1;have fv:=(eP 3 J).trans A.b3;have nw:=(eP 4 J).trans A.b4;have ia:=(eP 5 J).trans a6;have eO:∀y q,(dY (dY h E P) 3 y).get q=if q=3 then some y else if q=E then some P else h.get q:=λy q=>(dN fv y q).trans (by rw[hg]);have c7:∀y C q,(dY (dY (dY h E P) 3 y) 4 C).get q=if q=4 then some C else if q=3 then some y else if q=E then some P else h.get q:=λy C q=>(dN ((eO y 4).trans ((ao J).trans ((ao J).trans A.b4))) C q).trans (by rw[eO]);have o5:(3=E)=False:=dz;have lm:(4=E)=False:=dz;have sv:∀y,fh (dY h E P) (dY (dY h E P) 3 y) 5=true:=λy=>nl fv J y;have j0:∀y C,TI.fz (dY (dY (dY h E P) 3 y) 4 C) cc=some (sl (gG l1)):=λy C=>(bX.mono (h':=dY (dY (dY h E P) 3 y) 4 C) λq x=>by
   have:=A.bc q x;rw[c7,ao J,ao J,ao J]).fz dy
  have j5:∀y C,TI.fz (dY (dY (dY h E P) 3 y) 4 C) cf=some (sl (gG l2)):=λy C=>(kk.mono (h':=dY (dY (dY h E P) 3 y) 4 C) λq x=>by
   have:=A.bf q x;rw[c7,ao J,ao J,ao J]).fz dy
  have j6:∀y C,TI.fz (dY (dY (dY h E P) 3 y) 4 C) ct=some (sl ((s.dH.set ch.dP.toNat U).map eG.t)):=λy C=>by
   refine(A.gt.setAt t1 t3 ch.dP.toNat (.agg [Z hJ,fo,fs,Z hK]) (h':=dY (dY (dY h E P) 3 y) 4 C) (by rw[c7,ao J,ao J,aq rfl,hG])).Jl (V:=λ_=>True) (d:=4) J (Cz (by simp[A.l]) λj x W eE hw=>?_);rw[aW]at hw;obtain⟨mi,di,rfl⟩:=Option.map_eq_some_iff.1 hw;by_cases eX:j=ch.dP.toNat
   ·subst eX;rw[dq (by rw[A.l];exact X)]at eE;rw[dq X]at di;simp at eE di;subst eE;subst di;exact .inr (.inr ⟨_,_,rfl,mj.imp λ_ _ k=>k.mono λq G=>⟨trivial,by rw[c7,ao J,ao J,ao (λx=>G.2.2.2 (by rw[x];exact t1))]⟩,rfl⟩)
   ·rw[dt (λx=>eX x.symm)]at eE di;have lh:=A.m j (List.getElem?_eq_some_iff.1 di).1;have lp:=A.n7;refine(A.o j x mi eX eE di).mono λq G=>⟨trivial,?_⟩;rw[c7,ao J,ao J,ao (λx=>(A.bt E t1).2.2 j (List.getElem?_eq_some_iff.1 di).1 (by rw[<-x];exact G))]
  simp[cy,aA,bC,bH,bN,a7,A.b1,A.b2,em e6,lG,t2,t3,t4,dX,hG,h9,fv,ia,eO,c7,lm,A.b4,sv,j0,j5,j6,A.ok.hp];have fX:S=(fg c.ez s.fj ch.dP u.kind u.obj ch.wc).1:=by rw[k2]
  have e0:=vH c.ez s.fj ch.dP u.kind u.obj ch.wc;rw[<-fX]at e0;refine⟨⟨S,l1,l2,s.dH.set ch.dP.toNat U⟩,⟨u.dP,u.kind,u.obj,v,u.ji,u.mt,u.uN⟩,true,by simp[iO.t,iO.cs,bA],k6,λ_=>⟨⟨⟨by rw[e0.1];omega,by rw[e0.2.1];omega,by rw[e0.2.2];omega,by rw[b8];omega,by rw[k8];omega,dz⟩,?_,?_,λW hw=>?_⟩,λN ho W hw=>?_⟩⟩
  ·rw[fX];refine Em I.r _ ⟨e6,?_⟩ _ _ _;have:=Y.f.th;omega
  ·rw[fX];exact vI I.a _ _ _ _ _
  ·rcases cA hw with q|rfl
   ·exact I.t W q
   ·exact gP
  ·rcases cA hw with q|rfl
   ·have:=ho W q;omega
   ·have:=ho t (ay cL);omega
end
end
def Sp9(f:H)(a:fH)(b c:List Int):Prop:=∃g d e,nG f 2 7 g [(sl (a.ei.map dU.t),none),(Z a.tx,none),(sl (a.done.map T.bool),none),(sl (a.dH.map dM.t),none),(d,some (1,gG b)),(e,some (1,gG c)),(dD,none)]
structure Tt9(c:jU)(S:fH)(C F:List Int)(cc cf:T)(n1 k:Nat)(h:H)(ver:Nat)(ct:T)(es:List T)(ts:List eG)(lo hi:Nat->Nat):Prop where
 ok:hU 0 h
 n:3<=n1/\n1<=h.size
 b0:h.get 0=some (dE 7 0 [c.t])
 b1:h.get 1=some nT
 b2:h.get 2=some (dE 7 ver [.agg [sl (S.ei.map dU.t),Z S.tx,sl (S.done.map T.bool),sl (S.dH.map dM.t),cc,cf,ct]])
 gc:Gr h cc 1 (gG C)
 gf:Gr h cf 1 (gG F)
 bx:∀q,dS cc=some q\/dS cf=some q->3<=q/\q<n1
 th:Vz n1 h ct es ts lo hi
 l:ts.length=k
 t:∀t∈ts,WP 1000000 t/\t.dJ=0
def afb(b:T):Prop:=∃a:iO,b=a.t/\StI a/\Yz 0 a
def FJ:oa prog cx 90 (λk:jU=>[k.t]) (λk=>∀x∈k.dH,x.jm.length<=10000001) (λ_=>afb):=by
 refine jk [(88,xw.jA),(87,uk)] (iQ 4504699140047487 [] func90) (λ_=>1005) (λa b h=>by simp at h;exact jU.inj h) ?_;rintro k ds r Y;simp at Y;obtain⟨_,⟨b,rfl,bs⟩,b6⟩:=xw.use k ds;cases b with
 |false=>
  simp[f90,Y,b6];exact⟨⟨⟨[],0,[],[]⟩,[],[],[]⟩,rfl,⟨dy,λl hl=>by simp at hl,λl hl=>by simp at hl,λL ht=>by simp at ht⟩,λL ht=>by simp at ht⟩
 |true=>
  have W:=bs rfl;have aN:=lx W.1;obtain⟨eW,eX,e0,e4,e5,ca⟩:=aN;have eR:k.dH.length<=4:=by rw[W.2.1];exact ca
  simp[f90,Y,b6,JG,show k.ez.ei.length<=1000000 by omega,show k.ez.d8.length<=1000000 by omega,show k.ez.dH.length<=1000000 by omega];have bn:(ly k.ez).ei.length=k.ez.ei.length/\(ly k.ez).done.length=k.ez.d8.length/\(ly k.ez).dH.length=k.ez.dH.length:=by simp[ly]
  have di:JS 4 (ly k.ez):=(wi 4 k.ez);have dk:(ly k.ez).BS:=sW k.ez;generalize ly k.ez=o at*
  refine fk k.ez.cells.length J (λs r h=>∃G,Sp9 h o G []/\G.length=s/\Lb 2 h 0 (dE 7 0 [k.t])/\Lb 2 h 1 nT/\dF r 1 (.ptr 0 0 0 0)/\dF r 2 (.ptr 1 0 0 0)/\dF r 3 (.ptr 2 0 0 0)/\dF r 4 (Z s)) ?_ ?_ J ?_
  ·rintro s r h Q ae ⟨G,⟨ver,I,K,u⟩,dd,z,O,v,C,D,E⟩;have B:=u.get;simp at B;have⟨eC,h',U,y⟩:=(u.gr 4 rfl).lP (cx:=cx) (f:=T.int .i64) u.ok pF rfl Ak rfl dy (λ_=>rfl) k.ez.cells[s].jG dz;have⟨al,er,bS⟩:=u.app 4 rfl y;have⟨R,an⟩:=bS _ rfl;simp only[aP,bJ,cI,cB]at al R an;simp[v,C,D,E,Q,z.get,B,U,al,dX,y.1.ir,y.1.cells,ae];exact⟨G++[k.ez.cells[s].jG],⟨_,_,_,an⟩,dz,z.step R,O.step R⟩
  ·rintro r h ⟨G,et,dd,z,O,v,C,D,E⟩;simp[v,E,z.get];refine fk k.ez.d8.length J (λs r h=>∃F,Sp9 h o G F/\F.length=s/\Lb 2 h 0 (dE 7 0 [k.t])/\Lb 2 h 1 nT/\dF r 1 (.ptr 0 0 0 0)/\dF r 2 (.ptr 1 0 0 0)/\dF r 3 (.ptr 2 0 0 0)/\dF r 5 (Z s)) ?_ ?_ J ?_
   ·rintro s r h Q ae ⟨F,⟨ver,I,K,u⟩,bi,z,O,v,C,D,E⟩;have B:=u.get;simp at B;have⟨eC,h',U,y⟩:=(u.gr 5 rfl).lP (cx:=cx) (f:=T.int .i64) u.ok pF rfl Ak rfl dy (λ_=>rfl) 0 dz;have⟨al,er,bS⟩:=u.app 5 rfl y;have⟨R,an⟩:=bS _ rfl;simp only[aP,bJ,cI,cB]at al R an;simp[v,C,D,E,Q,z.get,B,U,al,dX,y.1.ir,y.1.cells,ae];exact⟨F++[0],⟨_,_,_,an⟩,dz,z.step R,O.step R⟩
   ·rintro r h ⟨F,⟨ver,I,K,u⟩,bi,z,O,v,C,D,E⟩;simp[v,E,z.get];have B:=u.get;simp at B;have av:=u.gr 4 rfl;have aA:=u.gr 5 rfl;have cy:∀q,dS I=some q\/dS K=some q->3<=q/\q<h.size:=λq N=>by
     have bB:Fp h 2 q:=by
      rcases N with x|x
      ·exact u.Cp (f:=(I,some (1,gG G))) dy x
      ·exact u.Cp (f:=(K,some (1,gG F))) dy x
     refine⟨?_,u.fp q bB⟩;have cb:q≠0:=λx=>z.nf (by rw[<-x];exact bB);have eD:q≠1:=λx=>O.nf (by rw[<-x];exact bB);have e6:q≠2:=λx=>by
      subst x;rcases N with x|x
      ·have⟨_,_,_,_,P,_⟩:=av.box x;rw[B]at P;simp at P
      ·have⟨_,_,_,_,P,_⟩:=aA.box x;rw[B]at P;simp at P
     omega
    have eP:=H.fa B;have eN:=av.ir;have eI:=av.cells;have eO:=aA.ir;have eL:=aA.cells;refine fk k.dH.length J (λs r h'=>∃ver S a6 ap bH bC,Tt9 k o G F I K h.size s h' ver S a6 ap bH bC/\dF r 1 (.ptr 0 0 0 0)/\dF r 2 (.ptr 1 0 0 0)/\dF r 3 (.ptr 2 0 0 0)/\dF r 6 (Z s)) ?_ ?_ (by have:=W.2.1;have:=ca;omega) ?_
    ·rintro s r h' Q ae ⟨ver,S,a6,ap,bH,bC,i,v,C,D,E⟩;have⟨m,dv,eS⟩:∃m:Nat,k.dH[s].iY=m/\m<=32:=⟨k.dH[s].iY.toNat,by have:=W.2.2 _ (aD Q);have:=this.1;omega,by have:=W.2.2 _ (aD Q);have:=this.2.1;omega⟩;have cL:m*8<=70368744177664:=J;have c1:m*24<=70368744177664:=J;have de:=i.n;have cb:∀q,q<3->(q=h'.size)=False:=λq N=>by simp;omega
     have eD:∀q,q<3->(q=h'.size+1)=False:=λq N=>by simp;omega
     have b9:=i.ok;have eV:=b9.low;have ZG:hU 0 ((h'.cons ⟨1,0,0,true,false,List.replicate m (Z 0)⟩).cons ⟨1,0,0,true,false,List.replicate m dD⟩):=(b9.cons _).cons _;have a7:∀q,((h'.cons ⟨1,0,0,true,false,List.replicate m (Z 0)⟩).cons ⟨1,0,0,true,false,List.replicate m dD⟩).get q=if q=h'.size+1 then some ⟨1,0,0,true,false,List.replicate m dD⟩else if q=h'.size then some ⟨1,0,0,true,false,List.replicate m (Z 0)⟩else h'.get q:=λq=>by rw[dT,dT];rfl
     have cp:((h'.cons ⟨1,0,0,true,false,List.replicate m (Z 0)⟩).cons ⟨1,0,0,true,false,List.replicate m dD⟩).size=h'.size+1+1:=rfl;have bN:Nb h' ((h'.cons ⟨1,0,0,true,false,List.replicate m (Z 0)⟩).cons ⟨1,0,0,true,false,List.replicate m dD⟩):=⟨⟨ZG.hp,ZG.low,J⟩,λq N=>(a7 q).trans ((ao J).trans (ao J))⟩;have c9:=i.th.g.mono (h':=(h'.cons ⟨1,0,0,true,false,List.replicate m (Z 0)⟩).cons ⟨1,0,0,true,false,List.replicate m dD⟩) λq x=>bN.get q (by have⟨_,_,_,_,P,_⟩:=i.th.g.box x;exact H.fa P);have⟨X,M,U,y⟩:=c9.yQ (cx:=cx) ZG MJ rfl MG rfl dy (x:= .agg [Z 0,.arr h'.size 0 0 m false,.arr (h'.size+1) 0 0 m false,Z 0]) rfl (by have:=i.th.l;have:=i.l;have:=W.2.1;simp;omega);simp only[cp]at U;have eE:=y.2.2.2.sz;rw[cp]at eE;have aX:∀q,dS S=some q->h.size<=q:=λq x=>(i.th.c q x).1;have gN:∀q,q<h'.size->dS S≠some q->M.get q=h'.get q:=λq N ea=>(y.2.1 q J ea).trans (bN.get q N);have a8:∀q,q<3->M.get q=h'.get q:=λq N=>gN q J λx=>by have:=aX q x;omega
     have p2:=(a8 2 J).trans i.b2;simp[v,C,D,E,Q,i.b0,i.b2,dv,cL,c1,cb,U,p2,y.1.ir,y.1.cells,dX,ae];have eo:hU 0 M:=⟨y.2.2.2.hp,y.2.2.2.low,aw _⟩;have A:∀q,(dY M 2 (dE 7 (ver+1) [.agg [sl (o.ei.map dU.t),Z o.tx,sl (o.done.map T.bool),sl (o.dH.map dM.t),I,K,X]])).get q=if q=2 then some (dE 7 (ver+1) [.agg [sl (o.ei.map dU.t),Z o.tx,sl (o.done.map T.bool),sl (o.dH.map dM.t),I,K,X]])else M.get q:=λq=>dN p2 _ q;have ef:=eo.put 2 (dE 7 (ver+1) [.agg [sl (o.ei.map dU.t),Z o.tx,sl (o.done.map T.bool),sl (o.dH.map dM.t),I,K,X]]);have e7:(dY M 2 (dE 7 (ver+1) [.agg [sl (o.ei.map dU.t),Z o.tx,sl (o.done.map T.bool),sl (o.dH.map dM.t),I,K,X]])).size=M.size:=fJ ..;generalize dY M 2 _=bi at*
     have eU:List.replicate m (T.int .i64 0)=gG (List.replicate m 0):=by simp[gG]
     have ey:BT h'.size (h'.size+1+1) ((h'.cons ⟨1,0,0,true,false,List.replicate m (Z 0)⟩).cons ⟨1,0,0,true,false,List.replicate m dD⟩) (.arr h'.size 0 0 m false) (.arr (h'.size+1) 0 0 m false) (List.replicate m dD) ⟨0,List.replicate m 0,List.replicate m [],0⟩:=by
      refine⟨.inr ⟨h'.size,0,0,true,_,dy,(a7 _).trans ((ao J).trans (aq rfl)),dy⟩,.inr ⟨h'.size+1,0,0,true,_,dy,(a7 _).trans (aq rfl),dy⟩,Cz dy λj a b Y bs=>?_,λq x=>?_,λq x=>?_⟩
      ·have dm:=bV (ay Y);have dn:=bV (ay bs);subst dm;subst dn;exact⟨.inr (Gr.nil _ _),λq x=>by simp at x⟩
      ·simp at x;subst x;exact⟨au _,J,dy⟩
      ·simp at x;subst x;exact⟨J,J⟩
     have eu:=(i.th.app i.n.2 bN ey y).mono (h':=bi) J λq v _=>(A q).trans (ao J);refine⟨ver+1,X,_,_,_,_,⟨ef,⟨i.n.1,J⟩,(A 0).trans ((ao J).trans ((a8 0 J).trans i.b0)),(A 1).trans ((ao J).trans ((a8 1 J).trans i.b1)),(A 2).trans (aq rfl),i.gc.mono λq x=>?_,i.gf.mono λq x=>?_,i.bx,eu,by simp[i.l],λL ht=>?_⟩⟩
     ·have:=i.bx q (.inl x);exact(A q).trans ((ao J).trans (gN q J λp=>by have:=aX q p;omega))
     ·have:=i.bx q (.inr x);exact(A q).trans ((ao J).trans (gN q J λp=>by have:=aX q p;omega))
     ·rcases List.mem_append.1 ht with q|q
      ·exact i.t L q
      ·simp at q;subst q;exact⟨⟨dz,dz,λl hl=>by have:=bV hl;subst this;exact Tn.nil _⟩,rfl⟩
    ·rintro r h' ⟨ver,S,a6,ap,bH,bC,i,v,C,D,E⟩;have bu:=i.b1;unfold nT at bu;have A:∀p q,(dY h' 1 p).get q=if q=1 then some p else h'.get q:=λp q=>dN bu p q;have de:=i.n;have c4:∀p,TI.fz (dY h' 1 p) I=some (sl (gG G)):=λp=>(i.gc.mono (h':=dY h' 1 p) λq x=>by have:=i.bx q (.inl x);rw[A,ao J]).fz dy;have c6:∀p,TI.fz (dY h' 1 p) K=some (sl (gG F)):=λp=>(i.gf.mono (h':=dY h' 1 p) λq x=>by have:=i.bx q (.inr x);rw[A,ao J]).fz dy;have c7:∀p,TI.fz (dY h' 1 p) S=some (sl (ap.map eG.t)):=λp=>by
      have bX:=i.th.mono (h':=dY h' 1 p) (by rw[fJ];exact au _) λq v _=>by rw[A,ao J]
      refine bX.g.Jl (V:=λ_=>True) (d:=4) J (Cz (by simp[bX.l]) λj x w ec aN=>?_);rw[aW]at aN;obtain⟨eB,eb,rfl⟩:=Option.map_eq_some_iff.1 aN;obtain⟨eF,eH,eM,rfl,eA⟩:=bX.e j x eB ec eb;exact .inr (.inr ⟨_,_,rfl,eA.fz _ λ_ _ _=>trivial,rfl⟩)
     simp[v,C,D,E,i.b0,i.b2,bu,dX,A,c4,c6,c7,i.ok.hp];have hl:=i.l;refine⟨⟨o,G,F,ap⟩,rfl,⟨⟨by rw[bn.1];omega,by rw[bn.2.1];omega,by rw[bn.2.2];omega,dA,dA,dA⟩,di,dk,λL ht=>(i.t L ht).1⟩,λL ht=>by have:=(i.t L ht).2;omega⟩
    ·refine⟨ver,dD,[],[],λ_=>0,λ_=>0,⟨u.ok,⟨J,au _⟩,z.get,O.get,B,av,aA,cy,⟨Gr.nil _ _,rfl,λs e L x=>by simp at x,λs x=>by simp at x,λs j x p=>by simp at p,λk x=>by simp at x⟩,rfl,λL ht=>by simp at ht⟩,by simp[v,C,D]⟩
   ·exact⟨[],et,rfl,z,O,by simp[v,C,D]⟩
  ·generalize aE:H.cons _ _=b7;have eh:hU 0 b7:=by rw[<-aE];exact⟨dy,dy,dy⟩
   have bT:=nG.start (h:=b7) (w:=2) (szw:=7) (ver:=1) (F:=[(sl (o.ei.map dU.t),none),(Z o.tx,none),(sl (o.done.map T.bool),none),(sl (o.dH.map dM.t),none),(dD,some (1,[])),(dD,some (1,[])),(dD,none)]) eh (by rw[<-aE];simp) (λf b8=>by
    simp only[cr,cN,or_false]at b8;rcases b8 with rfl|rfl|rfl|rfl|rfl|rfl|rfl
    iterate 4 exact .inl ⟨rfl,dy⟩
    iterate 2 exact .inr ⟨rfl,1,rfl,dB⟩
    exact .inl ⟨rfl,rfl⟩)
   exact⟨[],⟨1,_,_,bT.1⟩,rfl,⟨by rw[<-aE];simp,λx=>absurd (bT.2 0 x) J⟩,⟨by rw[<-aE];simp[nT],λx=>absurd (bT.2 1 x) J⟩,dy⟩
section
attribute [-simp] size_cons
structure IFr where
 (c:jU) (s:iO) (L:List gF)
def Wf(a:IFr)(b:List T)(d:H):Prop:=b=[a.c.t,a.s.t,dD,sl (a.L.map gF.t)]/\hU 0 d/\(∀e∈a.c.dH,e.jm.length<=10000001)/\StI a.s/\Yz 0 a.s/\a.L.length<=80
def Qf(i:IFr)(h:List T)(c:H)(f:T)(d:H):Prop:=∃(a:List ej) (g:iO) (b:T),f= .tuple [b,g.t]/\Gr d b 7 (a.map ej.t)/\(∀e,dS b=some e->c.size<=e)/\Nb c d/\Li a/\a.length<=80
structure Fr9(c:jU)(h0:H)(n:Nat)(h:H)(s:iO)(l:List ej)(v:T)(ver:Nat):Prop where
 nb:Nb h0 h
 z:h0.size+3<=h.size
 b0:h.get h0.size=some (dE 7 0 [c.t])
 b1:h.get (h0.size+1)=some (dE 7 ver [s.t])
 b2:h.get (h0.size+1+1)=some nT
 g:Gr h v 7 (l.map ej.t)
 bx:∀q,dS v=some q->h0.size+3<=q
 st:StI s
 ev:Yz n s
 es:Li l
 l:l.length<=n
def Fr9.ok{c:jU}{d a:H}{g:Nat}{h:iO}{f:List ej}{j:T}{k:Nat}(b:Fr9 c d g a h f j k):hU 0 a:=⟨b.nb.ok.hp,b.nb.ok.low,aw _⟩
def QU:(jI IFr Wf Qf).Ok prog cx 89:=by
 refine jx (tb:=⟨pt [(134,IC.jA)],ht []⟩) iL iB (iQ 68723687231 [(4,[(6,11),(6,12)])] func89) (λ_ _=>1005) (λi T d bT=>by obtain⟨rfl,_⟩:=bT;simp[f89]) ?_;rintro⟨r,j,D⟩ _ c ⟨rfl,an,X,ae,W,bB⟩ o I;simp only at X ae W bB;simp at I;obtain⟨bn,bs,s,u⟩:=I;have Q:=an.hr;simp[f89,bn,bs];have c4:=an.low;generalize p:((H.cons _ _).cons _).cons _=v;have c6:hU 0 v:=by rw[<-p];exact((Q.cons _).cons _).cons _
 have dm:v.size=c.size+1+1+1:=by rw[<-p];rfl
 have b6:Nb c v:=by rw[<-p];exact⟨((((Nb.refl Q).cons _).cons _).cons _).ok,λr bC=>(((((Nb.refl Q).cons _).cons _).cons _).get r bC).trans (gU c r)⟩
 have cb:v.get c.size=some (dE 7 0 [r.t]):=by rw[<-p];simp
 have cp:v.get (c.size+1)=some (dE 7 0 [j.t]):=by rw[<-p];simp
 have cy:v.get (c.size+1+1)=some nT:=by rw[<-p];simp[nT]
 clear p;refine rO D.length (λm o d=>∃j A B n,Fr9 r c m d j A B n/\dF o 4 (.ptr c.size 0 0 0)/\dF o 5 (.ptr (c.size+1) 0 0 0)/\dF o 9 (.ptr (c.size+1+1) 0 0 0)/\dF o 2 B/\dF o 3 (sl (D.map gF.t))/\dF o 10 (Z m)) ?_ J (aw _) ?_
 ·rintro m o d c1 ⟨j,A,B,n,b,L,x,M,s,u,F⟩;have al:=b.g.len (cx:=cx) d Xg _ rfl;rw[aG]at al;simp[s,u,F,al];refine ee (λe=>?_) (λe=>?_)
  ·have bS:m<D.length:=by simp at e;exact e.1
   have bX:=b.z;have a8:Yz 999000 j:=λR ht=>by have:=b.ev R ht;omega
   obtain⟨_,⟨q,E,b8,rfl,bN,Y⟩,U⟩:=IC.use (r,j,D[m]) ⟨X,b.st,a8⟩;simp only at U Y;have c7:(c.size=d.size)=False:=by simp<;>omega
   have dd:(c.size+1=d.size)=False:=by simp<;>omega
   have c9:(c.size=d.size+1)=False:=by simp<;>omega
   have de:(c.size+1=d.size+1)=False:=by simp<;>omega
   simp[u,L,x,F,b.b0,b.b1,bS,U,b.ok.low];generalize G:dY _ (d.size+1) _=h;have P:hU 0 ((d.cons (dE 7 1 [q.t])).cons (dE 7 0 [.agg [Z 0,Z 0,Z 0,Z 0,Z 0,dD,dD]])):=(b.ok.cons _).cons _;have O:hU 0 h:=by rw[<-G];exact P.put _ _
   have cL:h.size=d.size+1+1:=by rw[<-G,fJ];rfl
   have K:∀a,h.get a=if a=d.size+1 then some (dE 7 1 [E.t])else if a=d.size then some (dE 7 1 [q.t])else d.get a:=λa=>by
    rw[<-G,mr P.hp (by show _<d.size+1+1;omega)];split
    ·rfl
    ·rw[dT,ao (by assumption),dT]
   clear G P;have Go:∀a,a<d.size->h.get a=d.get a:=λa e=>(K a).trans ((ao J).trans (ao J));have a0:=(Go c.size J).trans b.b0;have a1:=(Go (c.size+1) J).trans b.b1;have a2:=(Go (c.size+1+1) J).trans b.b2;have av:=(K d.size).trans ((ao J).trans (aq rfl));have ap:=(K (d.size+1)).trans (aq rfl);have gA:=b.g.mono (h':=h) λa f=>by have⟨_,_,_,_,g,_⟩:=b.g.box f;exact Go a (H.fa g)
   cases b8 with
   |false=>
    simp[s,u,L,x,M,F,oN];rw[<-jE,jK J J];exact⟨m+1,J,J,j,A,B,⟨n,⟨⟨⟨O.hp,O.low,J⟩,λa e=>(Go a J).trans (b.nb.get a e)⟩,J,a0,a1,a2,gA,b.bx,b.st,λR ht=>by have:=b.ev R ht;omega,b.es,by have:=b.l;omega⟩⟩,rfl,dy⟩
   |true=>
    have⟨b9,a7⟩:=Y rfl;have b7:hU 0 (dY h (c.size+1) (dE 7 (n+1) [q.t])):=O.put _ _;have k:∀a,(dY h (c.size+1) (dE 7 (n+1) [q.t])).get a=if a=c.size+1 then some (dE 7 (n+1) [q.t])else h.get a:=λa=>dN a1 _ a;have di:(dY h (c.size+1) (dE 7 (n+1) [q.t])).size=d.size+1+1:=by rw[fJ];exact cL
    simp[s,x,av,a1];generalize dY h (c.size+1) _=V at*
    have aA:=(k c.size).trans ((ao J).trans a0);have aE:=(k (c.size+1)).trans (aq rfl);have aN:=(k (c.size+1+1)).trans ((ao J).trans a2);have aX:=(k (d.size+1)).trans ((ao J).trans ap);have bi:=gA.mono (h':=V) λa f=>(k a).trans (ao (by have:=b.bx a f;omega));have⟨ca,bu,a6,w⟩:=bi.lP (cx:=cx) b7 RV rfl RQ rfl dy (λ_=>rfl) E (by have:=b.l;simp;omega);simp[u,L,x,M,F,aX,a6,oN];rw[<-jE,jK J J];have dk:=w.2.2.2.sz;have C:∀a,a<c.size+3->bu.get a=V.get a:=λa e=>w.2.1 a J λf=>by have:=b.bx a f;omega
    exact⟨m+1,J,J,q,A++[E],ca,⟨n+1,⟨⟨⟨w.2.2.2.hp,w.2.2.2.low,J⟩,λa e=>(C a J).trans ((k a).trans ((ao J).trans ((Go a J).trans (b.nb.get a e))))⟩,J,(C c.size J).trans aA,(C (c.size+1) J).trans aE,(C (c.size+1+1) J).trans aN,w.1,λa f=>by
     rcases w.2.2.1 a f with y|y
     ·exact b.bx a y
     ·omega,b9,a7 m b.ev,λT I=>by
     rcases List.mem_append.1 I with y|y
     ·exact b.es T y
     ·simp at y;subst y;exact bN,by have:=b.l;simp;omega⟩⟩,rfl,dy⟩
  ·have N:=b.b2;unfold nT at N;have bX:=b.z;have k:∀y a,(dY d (c.size+1+1) y).get a=if a=c.size+1+1 then some y else d.get a:=λy a=>dN N y a;simp[s,x,M,b.b1,N,dX,k];have S:∀a,a≠c.size+1+1->(lO c (dY d (c.size+1+1) (dE 7 1 [j.t]))).get a=d.get a:=λa e=>by rw[fW,k,ao e]
   exact⟨A,j,B,rfl,b.g.mono λa f=>S a (by have:=b.bx a f;omega),λa f=>by have:=b.bx a f;omega,⟨⟨((b.ok.put _ _).out c).hp,((b.ok.put _ _).out c).low,by rw[uy,fJ];exact b.nb.ok.sz⟩,λa e=>(S a J).trans (b.nb.get a e)⟩,b.es,by have:=b.l;omega⟩
 ·exact⟨j,[],_,_,⟨b6,J,cb,cp,cy,Gr.nil _ _,λa f=>by simp at f,ae,W,λE bH=>by simp at bH,au _⟩,by simp[s,u]⟩
