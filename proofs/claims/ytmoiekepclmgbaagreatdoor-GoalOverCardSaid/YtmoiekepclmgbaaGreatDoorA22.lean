/- W07d -/
import Derived.Test.YtmoiekepclmgbaaGreatDoorA18
import Derived.Test.YtmoiekepclmgbaaGreatDoorA21
set_option linter.all false
set_option maxRecDepth 100000
set_option maxHeartbeats 0
namespace Go.Proofs.YtmoiekepclmgbaaGreatDoor
noncomputable section
open Go Go.TI Tryz
attribute [-simp] List.map_take List.map_drop List.map_append fU fK fh Bool.not_or Bool.not_and
attribute [simp] fT fM
section
attribute [-simp] size_cons
structure Xv where
 (i:io) (s:fH) (a b:T) (es:List T) (lo hi N:Nat)
structure TOk(N r:Nat)(s:fH):Prop where
 rl:s.jy.length=r
 tl:s.kM.length=r
 tn:∀l∈s.kM,Tn N l
def RH(c:Xv)(e:List T)(d:H):Prop:=e=[c.i.t,Dw c.s c.a c.b]/\C3 c.lo c.hi d c.a c.b c.es c.s/\c.hi<=d.size/\iE 0 d/\1<=c.i.op/\c.i.op<=5/\TOk c.N c.s.jy.length c.s/\c.s.jy.length<=1000/\c.N<=1000000
def NF(a:Xv)(k:List T)(e:H)(j:T)(c:H):Prop:=∃d f g i h,j= .tuple [Dw d f g,.bool h]/\C3 a.lo c.size c f g i d/\(∀b,b<e.size->(b<a.lo\/a.hi<=b)->c.get b=e.get b)/\iE e.size c/\(h=true->TOk a.N a.s.jy.length d/\d.dY=a.s.dY)
def C3.mono{g f lo' hi':Nat}{k h':H}{h i:T}{j:List T}{l:fH}(c:C3 g f k h i j l)(hl:lo'<=g)(n:f<=hi')(e:∀a,g<=a->a<f->h'.get a=k.get a):C3 lo' hi' h' h i j l:=
 ⟨c.ga.mono λa b=>e a (c.ba a b).1 (c.ba a b).2.1,c.gb.mono λa b=>e a (c.bb a b).1 (c.bb a b).2,c.el.imp λm o d=>⟨d.1.mono λa b=>e a (d.2 a b).1 (d.2 a b).2.1,λa b=>⟨by have:=(d.2 a b).1;omega,by have:=(d.2 a b).2.1;omega,(d.2 a b).2.2⟩⟩,λa b=>⟨by have:=(c.ba a b).1;omega,by have:=(c.ba a b).2.1;omega,(c.ba a b).2.2⟩,λa b=>⟨by have:=(c.bb a b).1;omega,by have:=(c.bb a b).2;omega⟩⟩
def C3.same{h g:Nat}{f:H}{c d:T}{e:List T}{b s':fH}(a:C3 h g f c d e b)(i:s'.jy=b.jy)(j:s'.kM=b.kM):C3 h g f c d e s':=⟨by rw[i];exact a.ga,a.gb,by rw[j];exact a.el,a.ba,a.bb⟩
def C3.zero(e d:Nat)(c:H):C3 e d c dR dR [] ⟨0,[],[],0⟩:=⟨Gr.nil _ _,Gr.nil _ _,.nil,λb a=>by simp at a,λb a=>by simp at a⟩
def Sl:(jY Xv RH NF).Ok prog cx 211:=by
 refine jV (tb:=⟨pt [(113,pI),(237,Ae.jX),(236,JF.jX),(238,Hc.jX)],ht [(93,jY IUn RG LT)]⟩) jg iT (jr 9904163146420522906957187071 [(20,[(2,4),(2,6),(2,7),(2,8)]),(10,[(2,4),(2,6),(2,7),(2,8),(2,10),(2,12),(2,13),(2,14)]),(22,[(1,11),(3,11),(5,11),(7,11),(5,13),(7,13)])] func211) (λ_ _=>100) (λi ae g ff=>by obtain⟨rfl,_⟩:=ff;simp[f211]) ?_;rintro⟨i,j,ae,al,R,ea,fb,N⟩ _ g ⟨rfl,h,e9,c1,fi,fo,w,hr,e6⟩ l de;simp only at h e9 fi fo w hr e6;simp[Dw]at de;obtain⟨e4,e5⟩:=de;simp[f211,e4,e5,xe];generalize S:(((TI.hr g).cons _).cons _).cons _=q;have I:iE 0 q:=by rw[<-S];exact((c1.hr.cons _).cons _).cons _
 have gk:q.size=g.size+1+1+1:=by rw[<-S];rfl
 have aE:Nb g q:=by rw[<-S];exact⟨((((Nb.refl c1.hr).cons _).cons _).cons _).ok,λd f=>(((((Nb.refl c1.hr).cons _).cons _).cons _).get d f).trans (iI g d)⟩
 have P:q.get g.size=some (dS 6 0 [i.t]):=by rw[<-S];simp
 have Q:q.get (g.size+1)=some (dS 4 0 [.agg [G j.pC,ae,al,G j.dY]]):=by rw[<-S];simp
 have aN:q.get (g.size+1+1)=some (dS 4 0 [.agg [G 0,dR,dR,G 0]]):=by rw[<-S];simp
 clear S;have dv:=h.ga.len (cx:=cx) q Vh _ rfl;rw[aG]at dv;have e0:∀y,(fg q (g.size+1+1) y).get (g.size+1+1)=some y:=λy=>(ee aN y _).trans (aq rfl);have gD:=Eh i;refine gu (jA i).length D (λV l h'=>q=h'/\dT l 2 (.ptr g.size 0 0 0)/\dT l 3 (.ptr (g.size+1) 0 0 0)/\dT l 4 (.ptr (g.size+1+1) 0 0 0)/\dT l 6 (sl (ij (jA i)))/\dT l 7 (G V)/\∀F∈(jA i).take V,0<=F/\F<j.jy.length) ?_ ?_ D Y
 ·rintro V l _ aA e7 ⟨rfl,r,s,A,bA,bB,E⟩;have fs:(jA i).take (V+1)=(jA i).take V++[(jA i)[V]]:=aM aA;simp[s,bA,bB,aA,Q,dv];generalize(jA i)[V]=F at*
  refine fw (λbp=>?_) (λbp=>?_)
  ·simp[A,aN,e0,eZ];refine⟨⟨0,[],[],0⟩,_,_,_,false,rfl,C3.zero _ _ _,λd f _=>?_,⟨(I.put _ _).out g|>.hp,(I.put _ _).out g|>.low,dN⟩,Y⟩;rw[il,ee aN,ao D];exact aE.get d f
  ·simp at bp;simp[r,s,A,bA,bB,e7,fs];intro x cF;rcases cF with cF|rfl
   ·exact E x cF
   ·omega
 ·rintro l _ ⟨rfl,r,s,A,bA,bB,E⟩;rw[aI]at E;simp[r,bA,bB,P];have bW:qA q 1 ae (ij j.jy):= .inr (h.ga.mono λd f=>aE.get d (by have:=(h.ba d f).2.1;omega));have bX:qA q 1 al R:= .inr (h.gb.mono λd f=>aE.get d (by have:=(h.bb d f).2;omega));have bT:∀F:Int,0<=F->F<j.jy.length->∃u e,j.kM[F.toNat]? =some u/\R[F.toNat]? =some e/\qA q 1 e (ij u)/\Tn N u:=λF r0 r1=>by
   have aA:F.toNat<j.kM.length:=by have:=w.tl;omega
   have⟨e,bN,k⟩:=h.el.get (az aA);exact⟨_,e,az aA,bN,k.1.mono λd f=>aE.get d (by have:=(k.2 d f).2.1;omega),w.tn _ (aC aA)⟩
  refine kP (λl C=>∃(v:Int) (eB:T) (Z:T) (X:List Int),Kr eB/\Nb q C/\qA C 1 Z (ij X)/\Tn N X/\ju i.a j.jy.length=true/\dT l 2 (.ptr g.size 0 0 0)/\dT l 3 (.ptr (g.size+1) 0 0 0)/\dT l 4 (.ptr (g.size+1+1) 0 0 0)/\dT l 8 (G v)/\dT l 9 eB/\dT l 10 Z) (λbp=>?_) (λbp=>?_) ?_
  ·simp[r,s,A,P,Q,aN,eZ,nM,I.hp,gk];refine⟨{j with pC:=i.a},ae,al,R,true,rfl,(h.mono (au _) dN λd _ f=>?_).same rfl rfl,λd f _=>?_,⟨(((I.put _ _).put _ _).out g).hp,(((I.put _ _).put _ _).out g).low,dN⟩,λ_=>⟨⟨rfl,w.tl,w.tn⟩,rfl⟩⟩
   all_goals (rw[il,nM (by simpa using I.hp) dN,ao D,ee Q,ao D];exact aE.get d D)
  ·have gz:¬i.op=5:=by simpa using bp
   have f:i.op=1\/i.op=2\/i.op=3\/i.op=4:=D;rcases f with e|e|e|e
   ·have J:=E i.a (by unfold jA;simp[e]);simp[r,s,A,P,e];exact⟨_,_,⟨_,rfl⟩,Nb.refl I,_,[],.inr (Gr.nil _ _),Tn.nil N,fI.2 ⟨J.1,D⟩,rfl,rfl,rfl⟩
   ·have J:=E i.a (by unfold jA;simp[e]);have B:=E i.b (by unfold jA;simp[e]);have⟨p1,aX,a6⟩:=bW.idx (te:=HN) rfl rfl (i:=i.b.toNat) (x:= G j.jy[i.b.toNat]) (by simp[show i.b.toNat<j.jy.length by omega]) rfl;have⟨u,Z,hl,bs,O,L⟩:=bT i.b B.1 B.2;have⟨p2,a7,a8⟩:=bX.idx (te:=pf) rfl rfl bs O.iN.2;simp[r,s,A,P,Q,e,fy B.1,aX,a6,a7,a8];exact⟨_,_,⟨_,rfl⟩,Nb.refl I,_,u,O,L,fI.2 ⟨J.1,D⟩,rfl,rfl,rfl⟩
   ·have J:=E i.a (by unfold jA;simp[e]);have B:=E i.b (by unfold jA;simp[e]);have⟨p1,aX,a6⟩:=bW.idx (te:=HN) rfl rfl (i:=i.b.toNat) (x:= G j.jy[i.b.toNat]) (by simp[show i.b.toNat<j.jy.length by omega]) rfl;have⟨u,Z,hl,bs,O,L⟩:=bT i.b B.1 B.2;have⟨p2,a7,a8⟩:=bX.idx (te:=pf) rfl rfl bs O.iN.2;obtain⟨_,⟨o,rfl⟩,ca⟩:=Ae.use i.n trivial;obtain⟨_,⟨gi,fC,rfl⟩,bi⟩:=JF.use (o,j.jy[i.b.toNat]) trivial;simp only at bi;simp[r,s,A,P,Q,e,fy B.1,aX,a6,a7,a8,ca,bi];exact⟨_,_,⟨_,rfl⟩,Nb.refl I,_,u,O,L,fI.2 ⟨J.1,D⟩,rfl,rfl,rfl⟩
   ·have J:=E i.a (by unfold jA;simp[e]);have B:=E i.b (by unfold jA;simp[e]);have cp:=E i.c (by unfold jA;simp[e]);have⟨p1,aX,a6⟩:=bW.idx (te:=HN) rfl rfl (i:=i.b.toNat) (x:= G j.jy[i.b.toNat]) (by simp[show i.b.toNat<j.jy.length by omega]) rfl;have⟨p3,eH,eI⟩:=bW.idx (te:=HN) rfl rfl (i:=i.c.toNat) (x:= G j.jy[i.c.toNat]) (by simp[show i.c.toNat<j.jy.length by omega]) rfl;have⟨u,Z,hl,bs,O,L⟩:=bT i.b B.1 B.2;have⟨l2,gj,gB,fv,ef,eA⟩:=bT i.c cp.1 cp.2;have⟨p2,a7,a8⟩:=bX.idx (te:=pf) rfl rfl bs O.iN.2;have⟨p4,eK,eL⟩:=bX.idx (te:=pf) rfl rfl fv ef.iN.2;obtain⟨_,⟨o,rfl⟩,ca⟩:=Ae.use i.n trivial;obtain⟨_,⟨gi,fC,rfl⟩,bi⟩:=Hc.use (o,j.jy[i.b.toNat],j.jy[i.c.toNat]) trivial;simp only at bi;simp[r,s,P,Q,e,fy B.1,fy cp.1,aX,a6,a7,a8,eH,eI,eK,eL,ca,bi];refine jm JC Y ⟨u,l2,Z,gj⟩ ⟨rfl,O,ef,by have:=L.1;have:=eA.1;simp only;omega,I⟩ ?_;rintro F C ⟨gd,K,_⟩;simp[r,s,A];exact⟨_,_,⟨_,rfl⟩,K,_,_,gd,L.union eA,fI.2 ⟨J.1,D⟩,rfl,rfl,rfl⟩
  ·rintro l C ⟨v,_,Z,X,⟨fE,rfl⟩,K,fY,L,J,r,s,A,c9,dd,c7⟩;have b7:=(K.get _ D).trans P;have b8:=(K.get _ D).trans Q;have c6:=(K.get _ D).trans aN;have ha:=K.ok.sz;have⟨cb,p,b9,⟨gM,gv,gA⟩,gX,bu,M⟩:=kQ (cx:=cx) (⟨K.ok.hp,K.ok.low,aw _⟩:iE 0 C) kx rfl mP kx rfl rfl Y fY.jM (by simp[T.cells]) (by have:=L.1;simp;omega);have U:=fI.1 J;have W:Nb g p:=⟨⟨M.hp,M.low,D⟩,λd f=>(bu d D).trans ((K.get d D).trans (aE.get d f))⟩;have gm:=(bu _ D).trans b7;have eE:=(bu _ D).trans b8;have eF:=(bu _ D).trans c6;have⟨m,gn,gP,gw,gS,bn,di,ap,dk⟩:=(h.ga.mono (h':=p) λd f=>W.get d (by have:=(h.ba d f).2.1;omega)).Bf (te:=HN) rfl (i:=i.a.toNat) (by simpa using U.2);have⟨z,eM,gQ,gy,gV,av,e8,bH,dm⟩:=(h.gb.mono (h':=p) λd f=>W.get d (by have:=(h.bb d f).2;omega)).Bf (te:=pf) rfl (i:=i.a.toNat) (by rw[h.el.length,w.tl];exact U.2);simp at b9;have bS:=(h.ba m bn).2.2;have ds:¬m=z:=λk=>bS (by rw[k];exact av);have eb:=H.fG ap;have fB:=H.fG bH;have ec:=(h.ba m bn);have gI:=(h.bb z av);have gE:=ec.1;have gF:=ec.2.1;have⟨e,bN,fX⟩:=h.el.get (az (show i.a.toNat<j.kM.length by rw[w.tl];exact U.2));have eu:=Ec (x:= .arr C.size cb 0 X.length false) fX.1.na;have fA:R[i.a.toNat]'(by rw[h.el.length,w.tl];exact U.2)=e:=by rw[az (by rw[h.el.length,w.tl];exact U.2)]at bN;simpa using bN
   rw[fA]at dm;have ey:∀x:Int,mG (G x) 0 [G v]=some (G v):=λx=>rfl;have c4:∀d,d<C.size->fQ (C.cons (dS 1 0 [])) p d=true:=λd f=>fZ ((bu d f).trans (by rw[ez,ao D]));have eh:=c4 g.size D;have eo:=c4 (g.size+1) D;have er:=oo ap (show g.size≠m by omega);have et:=oo ap (show g.size+1≠m by omega);have gg:=oo ap (show z≠m by omega);have eN:(g.size+1=m)=False:=dN;have eO:(g.size+1=z)=False:=dN;have eP:(g.size+1+1=m)=False:=dN;have eR:(g.size+1+1=z)=False:=dN;have eS:(z=m)=False:=dN;have l1:g.size+1<p.size:=D;have l2:g.size+1+1<p.size:=D;have dn:al= .arr z eM 0 R.length false:=by
    have⟨_,_,_,_,k,e⟩:=(h.gb.mono (h':=p) λd f=>W.get d (by have:=(h.bb d f).2;omega)).box av;rw[bH]at k;simp at k;rw[e,k.1]
   have fe:i.a.toNat<R.length:=by rw[h.el.length,w.tl];exact U.2
   simp at dk;simp[r,s,A,c9,dd,c7,b7,b8,b9,fy U.1,di,dn,fe,ap,bH,eE,eF,dk,dm,ey,eu,eh,eo,er,et,nM,M.hp,eb,fB,eN,eO,eP,eR,eS,l1,l2,eZ,pP];clear b9 c4 eh eo er et gg b7 b8 c6 r s A c9 dd c7 eu ey di e8;have eV:=h.ga.mono (h':=p) λd f=>W.get d (by have:=(h.ba d f).2.1;omega);have eX:=h.gb.mono (h':=p) λd f=>W.get d (by have:=(h.bb d f).2;omega);rw[<-dn];generalize bC:fg (fg (fg (fg p m _) z _) (g.size+1) _) (g.size+1+1) _=an;have gZ:an.size=p.size:=by rw[<-bC];simp
   have JI:iE 0 an:=by rw[<-bC];exact(((M.put _ _).put _ _).put _ _).put _ _
   have b6:∀d,an.get d=if d=g.size+1+1 then _ else if d=g.size+1 then _ else if d=z then _ else if d=m then _ else p.get d:=λd=>by
    rw[<-bC,nM (by simpa using M.hp) dN,nM (by simpa using M.hp) dN,nM (by simpa using M.hp) dN,nM M.hp eb]
   clear bC;have Go:∀d,d≠g.size+1+1->d≠g.size+1->d≠z->d≠m->an.get d=p.get d:=λd fL fP fS fW=>by rw[b6,ao fL,ao fP,ao fS,ao fW]
   have eU:=eV.setAt bn ap i.a.toNat (G v) (h':=an) (by rw[b6,ao D,ao D,ao D,aq rfl]);have eW:=eX.setAt av bH i.a.toNat (.arr C.size cb 0 X.length false) (h':=an) (by rw[b6,ao D,ao D,aq rfl]);have eC:∀d,eG ae=some d->d=m:=λd f=>by rw[bn]at f;simpa using f.symm
   have eD:∀d,eG al=some d->d=z:=λd f=>by rw[av]at f;simpa using f.symm
   refine⟨⟨IntKind.i64.wrap (j.pC+1),j.jy.set i.a.toNat v,j.kM.set i.a.toNat X,j.dY⟩,ae,al,R.set i.a.toNat (.arr C.size cb 0 X.length false),fE,rfl,⟨?_,?_,?_,λd f=>?_,λd f=>?_⟩,λd f hr=>?_,⟨(JI.out g).hp,(JI.out g).low,dN⟩,λ_=>⟨⟨Y,by simp;exact w.tl,λu hl=>?_⟩,rfl⟩⟩
   ·have:=eU.out g;simpa[ij,aU]using this
   ·exact eW.out g
   ·refine h.el.set i.a.toNat ⟨.inr ?_,λd f=>?_⟩ λe u k=>⟨k.1.mono λd f=>?_,λd f=>?_⟩
    ·have:=Gr.new ((Go C.size D D D D).trans gA);simpa using this.out g
    ·simp at f;subst f;exact⟨by show ea<=_;omega,dN,λk=>by have:=eC _ k;omega,λk=>by have:=eD _ k;omega⟩
    ·have⟨bS,ds,cL,cX⟩:=k.2 d f;rw[il,Go d D D (λk=>cX (by rw[k];exact av)) (λk=>cL (by rw[k];exact bn))];exact W.get d D
    ·have⟨bS,ds,cL,cX⟩:=k.2 d f;exact⟨bS,dN,cL,cX⟩
   ·have:=h.ba d f;exact⟨this.1,dN,this.2.2⟩
   ·have:=h.bb d f;exact⟨this.1,dN⟩
   ·have hr:d<ea\/fb<=d:=hr;rw[il,Go d D D D D];exact W.get d f
   ·rcases cE hl with k|rfl
    ·exact w.tn u k
    ·exact L
structure ISe where
 (c:im) (s:fH) (a b:T) (es:List T) (lo hi N:Nat)
structure YS(N:Nat)(s:fH):Prop where
 rl:s.jy.length<=1000
 tl:s.kM.length<=1000
 tn:∀l∈s.kM,Tn N l
def RI(d:ISe)(f:List T)(e:H):Prop:=f=[d.c.t,Dw d.s d.a d.b]/\C3 d.lo d.hi e d.a d.b d.es d.s/\d.hi<=e.size/\iE 0 e/\YS d.N d.s/\d.N<=1000000/\d.c.jO.length<=10000001
def EB(e:ISe)(h:List T)(c:H)(g:T)(d:H):Prop:=∃a f,g= .tuple [a.t,.bool f]/\YS e.N a/\(a.dY=e.s.dY\/a.dY=0)/\d.size=c.size/\(∀b,b<c.size->d.get b=c.get b)/\iE 0 d
def Ks(d:List Int):∀a∈ij d,cn a=a/\kE a=true/\∀b,a≠ .agg b:=λa c=>by obtain⟨e,_,rfl⟩:=List.mem_map.1 c;simp
def C3.fz{o m:Nat}{h:H}{g l:T}{p:List T}{e:fH}(c:C3 o m h g l p e)(k:Nat->Prop)(i:∀a,o<=a->a<m->k a):jh (FT h k 3) [G e.pC,g,l,G e.dY] e.cs:=
 .cons (iC ..) (.cons ((show qA h 1 g (ij e.jy)from .inr c.ga).ft (d:=1) (Ks _) λa b=>i a (c.ba a b).1 (c.ba a b).2.1)
  (.cons (c.gb.ft (λa b=>i a (c.bb a b).1 (c.bb a b).2) (c.el.Z7 (f:=λn=>sl (ij n)) λq n j=>j.1.ft (d:=0) (Ks _) λa b=>i a (j.2 a b).1 (j.2 a b).2.1)) (.cons (iC ..) .nil)))
def YH{i:ISe}{args:List T}{b d:H}{e:List T}{s':fH}{ok:Bool}{V:Nat->Prop}(o:iE 0 b)(a:Nb b d)(l:∀c,V c->b.size<=c)(k:jh (FT d V 3) e s'.cs)(q:YS i.N s')(n:s'.dY=i.s.dY\/s'.dY=0):Ay b (.tuple [.agg e,.bool ok]) d (EB i args b):=by
 have⟨p,h,j⟩:=FT.tup D l k ok;refine⟨a.ok.hp,a.ok.sz,λc r m _=> .inl (a.get c m),p,h,s',ok,by rw[j];rfl,q,n,rfl,λg f=>(Bw a.ok.hp a.ok.sz f).trans (a.get g f),o.cut a.ok.hp a.ok.sz⟩
def Nt:fH:=⟨0,[],[],0⟩
def FB{d:ISe}{c:List T}{a b:H}(f:iE 0 a)(e:Nb a b):Ay a (.tuple [.agg [G 0,dR,dR,G 0],.bool false]) b (EB d c a):=
 YH (s':=Nt) (V:=λ_=>False) f e (λ_ g=>g.elim) (.cons (iC ..) (.cons (jS ..) (.cons (jS ..) (.cons (iC ..) .nil)))) ⟨by simp[Nt],by simp[Nt],by simp[Nt]⟩ (.inr rfl)
structure SeS(c:im)(s:fH)(N:Nat)(h h':H)(s':fH)(a' b':T)(es':List T)(ver:Nat):Prop where
 tx:C3 (h.size+1+1+1) h'.size h' a' b' es' s'
 nb:Nb h h'
 hz:h.size+1+1+1<=h'.size
 g2:h'.get h.size=some (dS 2 0 [c.t])
 g3:h'.get (h.size+1)=some (dS 4 ver [.agg [G s'.pC,a',b',G s'.dY]])
 g4:h'.get (h.size+1+1)=some (dS 4 0 [.agg [G 0,dR,dR,G 0]])
 to:TOk N s.jy.length s'
 ev:s'.dY=s.dY
def Sp:(jY ISe RI EB).Ok prog cx 168:=by
 refine ta (tb:=⟨pt [(209,yE)],ht [(210,jY ICp RN LW),(211,jY Xv RH NF)]⟩) jg iT (jr 1182933510117985879039 [] func168) (λA a=>10000005) (λi A a dk=>by obtain⟨rfl,_⟩:=dk;simp[f168]) ?_;rintro⟨b,d,A,W,bi,bN,bA,V⟩ _ a ⟨rfl,u,c9,ok,tb,bs,x⟩ z bu;simp only at u c9 tb bs x;simp[Dw]at bu;obtain⟨c4,M⟩:=bu;have bC:=λM:H=>u.ga.len (cx:=cx) M Vh _ rfl;have bH:=λM:H=>u.gb.len (cx:=cx) M Jd _ rfl;rw[aG]at bC;rw[u.el.length]at bH;simp[f168,c4,M,bC,bH];generalize w:(((TI.hr a).cons _).cons _).cons _=s;have ef:iE 0 s:=by rw[<-w];exact((ok.hr.cons _).cons _).cons _
 have eK:s.size=a.size+1+1+1:=by rw[<-w];rfl
 have aE:Nb a s:=by rw[<-w];exact⟨((((Nb.refl ok.hr).cons _).cons _).cons _).ok,λb x=>(((((Nb.refl ok.hr).cons _).cons _).cons _).get b x).trans (iI a b)⟩
 have b9:s.get a.size=some (dS 2 0 [b.t]):=by rw[<-w];simp
 have a7:s.get (a.size+1)=some (dS 4 0 [.agg [G d.pC,A,W,G d.dY]]):=by rw[<-w];simp
 have X:s.get (a.size+1+1)=some (dS 4 0 [.agg [G 0,dR,dR,G 0]]):=by rw[<-w];simp
 clear w;have c1:∀c,(fg s (a.size+1+1) c).get (a.size+1+1)=some c:=λc=>(ee X c _).trans (aq rfl);refine fw (λP=>?_) (λP=>?_)
 ·simp[X,c1,eZ];exact FB ok (aE.put X D _)
 simp at P;have ec:∀b,bN<=b->b<bA->s.get b=a.get b:=λb _ x=>aE.get b D;have aX:=u.mono (au _) (au _) ec;simp[a7];refine jm JT Y ⟨d,A,W,bi⟩ ⟨rfl,⟨.inr aX.ga,.inr aX.gb,aX.el.imp λ_ _ q=>q.1,λe h he aA=>?_⟩,ef,by have:=tb.rl;simp only;omega,by have:=tb.tl;simp only;omega,λl hl=>by have:=(tb.tn l hl).1;omega⟩ ?_
 ·rcases he with rfl|rfl|he
  ·have:=(u.ba h aA).2.1;omega
  ·have:=(u.bb h aA).2;omega
  ·have⟨l,q,k⟩:=u.el.left he;have:=(k h aA).2.1;omega
 rintro _ g ⟨a1,o,es1,rfl,b7,y⟩;simp only at b7;have eH:=y.ok.sz;have ca:=(y.get _ D).trans b9;have B:=(y.get _ D).trans a7;have cb:=(y.get _ D).trans X;have bW:Nb a (fg g (a.size+1) (dS 4 1 [.agg [G d.pC,a1,o,G d.dY]])):=(aE.trans y).put B D _;have er:=b7.mono (lo':=a.size+1+1+1) (hi':=(fg g (a.size+1) (dS 4 1 [.agg [G d.pC,a1,o,G d.dY]])).size) (h':=fg g (a.size+1) (dS 4 1 [.agg [G d.pC,a1,o,G d.dY]])) D Y λb x _=>by rw[ee B,ao D]
 have eF:iE 0 g:=⟨y.ok.hp,y.ok.low,aw _⟩;have cp:(fg g (a.size+1) (dS 4 1 [.agg [G d.pC,a1,o,G d.dY]])).get a.size=_:=(show(fg g (a.size+1) (dS 4 1 [.agg [G d.pC,a1,o,G d.dY]])).get a.size=g.get a.size by rw[ee B,ao D]).trans ca;have cF:(fg g (a.size+1) (dS 4 1 [.agg [G d.pC,a1,o,G d.dY]])).get (a.size+1)=_:=(ee B _ _).trans (aq rfl);have a8:(fg g (a.size+1) (dS 4 1 [.agg [G d.pC,a1,o,G d.dY]])).get (a.size+1+1)=_:=(show(fg g (a.size+1) (dS 4 1 [.agg [G d.pC,a1,o,G d.dY]])).get (a.size+1+1)=g.get (a.size+1+1)by rw[ee B,ao D]).trans cb;simp[Dw,B,eZ];generalize fg g (a.size+1) _=eB at*
 refine gu (b.jO.length+1) D (λR z h'=>∃r K L Z U,SeS b d V a h' r K L Z U/\dT z 2 (.ptr a.size 0 0 0)/\dT z 3 (.ptr (a.size+1) 0 0 0)/\dT z 4 (.ptr (a.size+1+1) 0 0 0)/\dT z 6 (G R)) ?_ ?_ D ?_
 ·rintro R z h' eC c6 ⟨r,K,L,Z,U,⟨a6,p,dn,C,E,f,n,av⟩,I,J,v,N⟩;have F:∀c,(fg h' (a.size+1+1) c).get (a.size+1+1)=some c:=λc=>(ee f c _).trans (aq rfl);have b6:iE 0 h':=⟨p.ok.hp,p.ok.low,aw _⟩;simp[I,J,N,C,E,show(R:Int)<=b.jO.length by omega];refine fw (λP=>?_) (λP=>?_)
  ·simp[v,f,F,eZ];exact FB ok (p.put f D _)
  simp at P;have⟨j,O⟩:∃j:Nat,r.pC=j:=⟨r.pC.toNat,D⟩;have dd:j<b.jO.length:=D;have eb:(a.size=h'.size)=False:=dN;have bS:(a.size+1=h'.size)=False:=dN;have bT:(a.size+1+1=h'.size)=False:=dN;have de:=b6.low;simp[I,J,C,E,O,dd,de,yT];generalize b.jO[j]=h at*
  have eE:=p.cons (dS 6 1 [h.t]);have et:YS V r:=⟨by have:=n.rl;have:=tb.rl;omega,by have:=n.tl;have:=tb.rl;omega,n.tn⟩;have eA:∀c,((fg h' (a.size+1+1) c).cons (dS 6 1 [h.t])).get (a.size+1+1)=some c:=λc=>by rw[ez,ao dN];exact F c
  refine fw (λal=>?_) (λal=>?_)
  ·have cX:∀c:jv,∀b,a.size+1+1+1<=b->b<h'.size->((fg h' (a.size+1+1) c).cons (dS 6 1 [h.t])).get b=h'.get b:=λc b eo aN=>by rw[ez,ao dN,ee f,ao D]
   simp[J,v,E,f,bS,bT,O,F,eZ,show a.size+1+1<h'.size by omega];have:=YH (i:=⟨b,d,A,W,bi,bN,bA,V⟩) (args:=[b.t,Dw d A W]) (ok:=true) ok ((p.put f D (dS 4 1 [.agg [G r.pC,K,L,G r.dY]])).cons (dS 6 1 [h.t])) (λb x=>(show a.size<=b from x)) ((a6.mono (au _) (au _) (cX _)).fz (λb=>a.size<=b) λb q _=>by omega) et (.inl av);rw[O]at this;exact this
  simp at al;have bB:1<=h.op/\h.op<=5:=by unfold yz at al;simpa using al
  have di:decide ((R:Int)=b.jO.length)=decide (R=b.jO.length):=by rw[decide_eq_decide];omega
  simp[I,N,C,eb,di];refine fw (λdm=>?_) (λdm=>?_)
  ·simp[v,f,bT,eZ,F,show a.size+1+1<h'.size by omega];exact FB ok ((p.put f D _).cons _)
  simp[J,E,bS,O];have eu:=a6.mono (h':=h'.cons (dS 6 1 [h.t])) (au _) (au _) λb _ q=>by rw[ez,ao D]
  refine jm Sl Y ⟨h,r,K,L,Z,a.size+1+1+1,h'.size,V⟩ ⟨by simp[Dw,O],eu,Y,b6.cons _,bB.1,bB.2,⟨rfl,by have:=n.rl;have:=n.tl;simp only;omega,n.tn⟩,by have:=tb.rl;have:=n.rl;simp only;omega,bs⟩ ?_;rintro _ m ⟨T,a2,ap,Di,eh,rfl,b8,bn,S,bp⟩;simp only[adm]at b8 bn S bp;have eI:=S.sz;have ae:∀b,b<a.size+1+1+1->m.get b=h'.get b:=λb q=>(bn b D (.inl q)).trans (by rw[ez,ao D]);have ds:=(ae a.size D).trans C;have Q:=(ae (a.size+1) D).trans E;have an:=(ae (a.size+1+1) D).trans f;have eD:(a.size=m.size)=False:=dN;have dv:(a.size+1=m.size)=False:=dN;have ea:(a.size+1+1=m.size)=False:=dN;have bX:Nb a m:=⟨⟨S.hp,S.low,D⟩,λb q=>(ae b D).trans (p.get b q)⟩;have cL:∀c,(fg m (a.size+1+1) c).get (a.size+1+1)=some c:=λc=>(ee an c _).trans (aq rfl);simp[Dw,S.low,eZ];cases eh with
  |false=>
   simp[v,an,ea,eZ,cL,show a.size+1+1<m.size by omega];exact FB ok ((bX.put an D _).cons _)
  |true=>
   have⟨t2,ey⟩:=bp rfl;simp[I,J,v,N,Q,dv,eZ,c6,show a.size+1<m.size by omega];have e:∀b,b<a.size+1+1+1->b≠a.size+1->((fg m (a.size+1) (dS 4 (U+1) [.agg [G T.pC,a2,ap,G T.dY]])).cons (dS 4 1 [.agg [G T.pC,a2,ap,G T.dY]])).get b=m.get b:=λb eo aN=>by rw[ez,ao dN,ee Q,ao aN]
   refine⟨T,a2,ap,Di,U+1,b8.mono (au _) Y λb q aN=>?_,(bX.put Q D _).cons _,dN,(e _ D D).trans ds,?_,(e _ D D).trans an,⟨by rw[t2.rl];exact n.rl,by rw[t2.tl];exact n.rl,t2.tn⟩,by rw[ey];exact av⟩
   ·rw[ez,ao dN,ee Q,ao D]
   ·rw[ez,ao dN,ee Q,aq rfl]
 ·rintro z h' ⟨r,K,L,Z,U,⟨a6,p,dn,C,E,f,n,av⟩,I,J,v,N⟩;have F:∀c,(fg h' (a.size+1+1) c).get (a.size+1+1)=some c:=λc=>(ee f c _).trans (aq rfl);have c7:((b.jO.length:Int)+1<=b.jO.length)=False:=dN;simp[I,v,N,C,f,F,eZ,c7];exact FB ok (p.put f D _)
 ·simp;exact⟨d,a1,o,es1,1,er,bW,by have:=bW.ok.sz;have:=H.fG a8;omega,cp,cF,a8,⟨rfl,D,tb.tn⟩,rfl⟩
def yO:List Int:=[3,3,4,4,5,6,7,8,9,10,11,12,13,14,15,16,18,19,20,21,22,23,2]
def nW(a:Int):Int:=if a<6\/28<a then 0 else yO.getD (a-6).toNat 0
def AR:iy:=⟨Int,λa=>[G a],λa=>True,λa=> G (nW a),λa c b=>by simp at b;rw[b]⟩
def SD:AR.Ok prog cx 204:=by
 refine iq [] (jr 1037 [] func204) (λl=>1) (by simp[AR]) ?_;rintro(b:Int) m n f;simp[AR]at f|-;by_cases h:b<6\/28<b
 ·have d:nW b=0:=by unfold nW;rw[aq h]
  rcases h with h|h<;>simp[f204,f,h,d]
 ·have⟨a,i⟩:∃a:Nat,b=(a:Int)+6:=⟨(b-6).toNat,D⟩;subst i;have g:a<23:=D;have⟨e,d⟩:∃e,yO[a]? =some e:=⟨_,az (show a<yO.length from g)⟩;have c:(yO.map (T.int .i64))[a]? =some (G e):=by rw[aR,d];rfl
  have j:nW ((a:Int)+6)=e:=by
   unfold nW;rw[ao h,show((a:Int)+6-6).toNat=a by omega];simp[List.getD,d]
  have k:binop .sub (G ((a:Int)+6)) (G 6)=some (G (a:Int)):=by rw[lJ D D];congr 2;omega
  simp only[yO,aL,bw]at c;have⟨_,c⟩:=List.getElem?_eq_some_iff.1 c;simp[f204,f,show¬(a:Int)+6<6 by omega,show¬(28:Int)<(a:Int)+6 by omega,k,g,c,j]
def Xd{b:gG}(ht:b.p 204=some AR)(a:Int):rl prog cx b 204 [G a]=some (G (nW a)):=iA ht SD a trivial
structure abg(c:ky)(s:jo):Prop where
 v:TZ c
 f:mn c.fq s.fN=true
 cl:s.cells.length=c.fq.cells.length
 fu:s.fa.length=c.fq.fa.length
 th:s.dW.length=c.dW.length
 t:∀(i:Nat) (t:fH) (x:im),s.dW[i]? =some t->c.dW[i]? =some x->0<=t.pC/\t.pC<x.jO.length/\t.jy.length=x.jy/\t.kM.length=x.jy
def KU{a:ky}(b:TZ a):a.fq.iB.length<=2/\a.dW.length<=4:=by
 have:=b.1;unfold kv uL at this;simp only[ax,aK]at this;have c:=b.2.1;omega
def JP:o9 prog cx 203 (λh:ky×jo=>[h.1.t,h.2.t]) (λh=>∀a∈h.1.dW,a.jO.length<=10000001) (λh=>Ih (abg h.1 h.2)):=by
 refine jL [(88,yI.jX),(31,tq)] (jr 158456325028530997355645763711 [] func203) (λ_=>100) (λh b g=>by simp at g;exact aD (ky.inj g.1) (jo.inj g.2)) ?_;rintro⟨f,l⟩ x m H;replace x:∀a∈f.dW,a.jO.length<=10000001:=x;simp at H;obtain⟨E,F⟩:=H;obtain⟨_,⟨b,rfl,O⟩,C⟩:=yI.use f x;cases b with
 |false=>simp[f203,E,F,C]
 |true=>
  have I:=O rfl;have⟨Z,ae⟩:=KU I;simp[f203,E,F,C,u7,show f.fq.iB.length<=1099511627776 by omega];refine fw (λB=>?_) (λB=>?_)
  ·simp
  simp only[cP,cT,aK]at B;obtain⟨⟨⟨S,V⟩,W⟩,X⟩:=B;simp;generalize q:(hE.cons _).cons _=w;have R:iE 2 w:=by rw[<-q];exact⟨Y,Y,Y⟩
  have j:w.get 0=some (dS 7 0 [f.t]):=by rw[<-q];simp
  have n:w.get 1=some (dS 7 0 [l.t]):=by rw[<-q];simp
  clear q;refine gu f.dW.length D (λe m g=>iE 2 g/\g.get 0=some (dS 7 0 [f.t])/\g.get 1=some (dS 7 0 [l.t])/\(∀(d:Nat) (c:fH) (a:im),d<e->l.dW[d]? =some c->f.dW[d]? =some a->0<=c.pC/\c.pC<a.jO.length/\c.jy.length=a.jy/\c.kM.length=a.jy)/\dT m 2 (.ptr 0 0 0 0)/\dT m 3 (.ptr 1 0 0 0)/\dT m 5 (G e)) ?_ ?_ D ?_
  ·rintro e m g z N ⟨i,j,n,A,o,v,p⟩;have K:=i.ne (b:=0) D;have Q:=i.ne (b:=1) D;have y:e<l.dW.length:=D;have⟨c,ht⟩:∃c,l.dW[e]? =some c:=⟨_,az y⟩;have⟨a,k⟩:∃a,f.dW[e]? =some a:=⟨_,az z⟩;have L:l.dW[e]=c:=by rw[az y]at ht;simpa using ht
   have M:f.dW[e]=a:=by rw[az z]at k;simpa using k
   simp[j,n,o,v,p,z,y,K,i.low,L,M];refine fw (λu=>?_) (λu=>?_)
   ·simp[i.hp]
   simp only[cP,cT,aK,bZ]at u;simp[o,v,p,N];refine⟨i.cons _,by simpa[K]using j,by simpa[Q]using n,λd T U P r s=>?_⟩;rcases aS d e with J|J
   ·exact A d T U J r s
   ·have:d=e:=D;subst this;rw[ht]at r;rw[k]at s;simp only[ar]at r s;subst r s;exact⟨D,D,u.1.2,u.2⟩
  ·rintro m g ⟨i,j,n,A,o,v,p⟩;simp[j,o,p,i.hp];exact⟨I,S,D,D,D,λd c a ht k=>A d c a (List.getElem?_eq_some_iff.1 k).1 ht k⟩
  ·exact⟨R,j,n,λd c a P=>by omega,Y⟩
def JO:o9 prog cx 235 (λa:Int×Int=>[G a.1,G a.2]) (λa=>True) (λ_=>Hm):=by
 refine jL [] (jr 4275 [] func235) (λ_=>10) (λa i b=>by simp at b;exact aD b.1 b.2) ?_;rintro⟨k,f⟩ _ j d;simp at d;obtain⟨g,c⟩:=d;by_cases e:f<1
 ·simp[f235,c,e]
 ·simp[f235,g,c,e,Da (show¬f=0 by omega)];refine fw (λh=>?_) (λh=>?_)<;>simp[c,pP]
def abe(a:io)(b:fH):Prop:=(a.op=7\/a.op=9)->ju a.c b.jy.length=true
def EJ:o9 prog cx 205 (λb:io×fH=>[b.1.t,b.2.t]) (λb=>abe b.1 b.2) (λ_=>Hm):=by
 refine jL [(235,JO.jX)] (jr 1099578740959 [(6,[(1,10)]),(8,[(1,10)])] func205) (λ_=>10) (λb w i=>by simp at i;exact aD (io.inj i.1) (fH.inj i.2)) ?_;rintro⟨a,v⟩ d x o;replace d:abe a v:=d;simp at o;obtain⟨j,k⟩:=o;have⟨s,f⟩:=JO.fnI (γ:=Int×Int) id (λ_=>trivial);have f:∀{r:gG},r.p 235=some (wR prog cx 235 (λb:Int×Int=>[G b.1,G b.2]) (λb=>True) (λ_=>Hm))->∀h g,rl prog cx r 235 [G h,G g]=some (G (s (h,g))):=λht h g=>f ht (h,g);cases c:decide (a.op=7)with
 |true=>
  have⟨u,hr,_⟩:=iU (d (.inl (by simpa using c)));have n:=fy (fI.1 (d (.inl (by simpa using c)))).1;have m:decide (a.op=6)=false:=by
   have:a.op=7:=by simpa using c
   exact aO D
  have l:decide (a.op=27)=false:=by
   have:a.op=7:=by simpa using c
   exact aO D
  simp[f205,j,k,c,m,l,hr,n,f,pP]
 |false=>
  cases e:decide (a.op=9)with
  |true=>
   have⟨u,hr,_⟩:=iU (d (.inr (by simpa using e)));have n:=fy (fI.1 (d (.inr (by simpa using e)))).1;have m:decide (a.op=6)=false:=by
    have:a.op=9:=by simpa using e
    exact aO D
   have l:decide (a.op=27)=false:=by
    have:a.op=9:=by simpa using e
    exact aO D
   simp[f205,j,k,c,e,m,l,hr,n,f,pP]
  |false=>
   simp[f205,j,k]
   repeat' (refine fw (λq=>?_) (λq=>?_)<;>simp[q,c,e])
def OO{a:H}(h:iE 0 a)(b:List Int)(hl:b.length<=1000000):∃f c,jn cx a 38 38 dR (sl (ij b))=some (.val f c)/\Gr c f 1 (ij b)/\Nb a c/\(∀d,eG f=some d->a.size<=d)/\(c=a\/c=a.cons ⟨1,0,0,false,false,ij b⟩):=by
 unfold jn qt nH;simp only[kx,eJ,show pf.u= .slice 3 from rfl,mP,Tz];cases b with
 |nil=>exact⟨_,_,rfl,Gr.nil _ _,Nb.refl h,λd e=>by simp at e,.inl rfl⟩
 |cons g b=>
  refine⟨.arr a.size 0 0 (ij (g::b)).length false,a.cons ⟨1,0,0,false,false,ij (g::b)⟩,?_,Gr.new (ep:=0) (ver:=0) (ex:=false) Y,(Nb.refl h).cons _,λd e=>by simp at e;omega,.inr rfl⟩;rw[lN (by simp[T.cells]),iR];show j7 (a.js 1 8 [] (ij (g::b)))=_;rw[qy (by simp[T.cells]) dP (by simp at hl|-;omega)];rfl
structure PeP(c:ky)(s:jo)(th:Int)(e:fk)(t:fH)(x:im)(i:io):Prop where
 f:abg c s
 n:ju th c.dW.length=true
 ht:s.dW[th.toNat]? =some t
 hx:c.dW[th.toNat]? =some x
 hi:x.jO[t.pC.toNat]? =some i
 k:e.kind=1\/e.kind=17\/(e.kind=nW i.op/\e.kind≠0)
def adg(a:Nat)(c:jo):Prop:=∀d∈c.dW,∀b∈d.kM,b.length<=a
def evN(a:Nat)(b:fk):Prop:=b.mE.length<=a/\b.tQ.length<=a
def ZD(c:ky)(f:jo)(h:Int)(e:T):Prop:=∃(a:fk) (b:Bool),e= .tuple [a.t,.bool b]/\evN 1000000 a/\(b=true->∃g i d,PeP c f h a g i d)
def Kt{f:ky}{m:jo}(g:abg f m){d:Int}(h:ju d f.dW.length=true):∃b a c,kT d=some d.toNat/\m.dW[d.toNat]? =some b/\f.dW[d.toNat]? =some a/\kT b.pC=some b.pC.toNat/\a.jO[b.pC.toNat]? =some c/\b.jy.length=a.jy/\b.kM.length=a.jy/\(∀e∈jA c,0<=e/\e<a.jy)/\a.jy<=32:=by
 have⟨a,i,_⟩:=iU h;have j:=h;rw[<-g.th]at j;have⟨b,ht,_⟩:=iU j;have⟨p1,p2,p3,p4⟩:=g.t _ _ _ ht i;have⟨c,k⟩:∃c,a.jO[b.pC.toNat]? =some c:=⟨_,az D⟩;have l:=g.v.2.2 a (ay i);exact⟨b,a,c,fy (fI.1 h).1,ht,i,fy p1,k,p3,p4,λe hr=>l.2.2 c (ay k) e hr,l.2.1⟩
structure PJ(th:Int)(t:fH)(i:io)(o:Int)(h':H)(dv:T)(d:List Int)(ver:Nat):Prop where
 ok:iE 6 h'
 b2:h'.get 2=some (dS 7 0 [.agg [G 0,G 0,G 0,G 0,G 0,dR,dR]])
 b3:h'.get 3=some (dS 4 1 [t.t])
 b4:h'.get 4=some (dS 6 1 [i.t])
 b5:h'.get 5=some (dS 7 ver [.agg [G th,G (nW i.op),G o,G 0,G i.jK,dv,dR]])
 g:Gr h' dv 1 (ij d)
 l:d.length<=1000000
 bx:∀c,eG dv=some c->6<=c
def PJ.app{p:Int}{t:fH}{j:io}{o:Int}{h:H}{q:Nat}(e:PJ p t j o h dR [] q)(k:List Int)(hl:k.length<=1000000):∃c b,jn cx h 38 38 dR (sl (ij k))=some (.val c b)/\c.iN=true/\c.cells=[c]/\(∀a,a<6->b.get a=h.get a)/\iE 6 b/\
 ∀d,d=((dS 7 (q+1) [.agg [G p,G (nW j.op),G o,G 0,G j.jK,c,dR]]):jv)->PJ p t j o (fg b 5 d) c k (q+1):=by
 have w:=e.ok.sz;have⟨c,b,u,m,l,r,_⟩:=OO ⟨e.ok.hp,e.ok.low,aw _⟩ k hl;have f:∀a,a<6->b.get a=h.get a:=λa i=>l.get a D;have s:iE 6 b:=⟨l.ok.hp,l.ok.low,aQ w l.ok.sz⟩;have v:=(f 5 D).trans e.b5;have g:∀d a,(fg b 5 d).get a=if a=5 then some d else b.get a:=λd a=>ee v d a;refine⟨c,b,u,m.iN,m.cells,f,s,?_⟩;rintro d rfl;exact⟨s.put _ _,by rw[g,ao D];exact(f 2 D).trans e.b2,by rw[g,ao D];exact(f 3 D).trans e.b3,by rw[g,ao D];exact(f 4 D).trans e.b4,by rw[g,aq rfl],m.mono λa i=>by rw[g,ao (by have:=r a i;omega)],hl,λa i=>by have:=r a i;omega⟩
def B7:o9 prog cx 159 (λn:ky×jo×Int=>[n.1.t,n.2.1.t,G n.2.2]) (λn=>(∀x∈n.1.dW,x.jO.length<=10000001)/\adg 1000000 n.2.1) (λn=>ZD n.1 n.2.1 n.2.2):=by
 refine jL [(203,JP.jX),(204,AR),(205,EJ.jX)] (jr 10633824283312870803151638865622599647 [(11,[(2,8),(4,8),(6,8)]),(14,[(2,3),(2,4)])] func159) (λ_=>100) (λn cL V=>by simp at V;exact aD (ky.inj V.1) (aD (jo.inj V.2.1) V.2.2)) ?_;rintro⟨d,s,p⟩ ⟨bS,bX⟩ M bH;simp only at bS bX;simp at bH;obtain⟨c6,a7,K⟩:=bH;obtain⟨_,⟨cL,rfl,bN⟩,bu⟩:=JP.use (d,s) bS;simp only at bN bu;have a8:ZD d s p (.tuple [fk.t ⟨0,0,0,0,0,[],[]⟩,.bool false]):=⟨_,_,rfl,⟨Y,Y⟩,Y⟩;simp[f159,c6,a7,K,bu];refine fw (λbi=>?_) (λbi=>?_)
 ·simp;exact a8
 simp only[cP,cT,bZ]at bi;obtain⟨⟨rfl,cb⟩,ef⟩:=bi;have X:=bN rfl;have bn:ju p d.dW.length=true:=fI.2 ⟨D,D⟩;have⟨y,x,e,b6,bp,b7,dk,b8,dv,ea,b9,eb⟩:=Kt X bn;have de:ju p s.fN.dW.length=true:=by
  rw[(mF X.f).2.2,<-X.v.2.1];exact bn
 have⟨u,cF,_⟩:=iU de;simp[K,b6,bp,b7,dk,b8,cF];have ae:∀z:fk,evN 1000000 z->(z.kind=1\/z.kind=17\/(z.kind=nW e.op/\z.kind≠0))->ZD d s p (.tuple [z.t,.bool true]):=λz a7 K=>⟨z,true,rfl,a7,λ_=>⟨y,x,e,X,bn,bp,b7,b8,K⟩⟩;refine fw (λcb=>?_) (λcb=>?_)
 ·simp[K];exact ae ⟨p,1,-1,0,-1,[],[]⟩ ⟨Y,Y⟩ (.inl rfl)
 cases aA:decide (u.jf=4)with
 |true=>
  simp[K,aA,b6,cF];exact ae ⟨p,17,u.cond,0,e.jK,[],[]⟩ ⟨Y,Y⟩ (.inr (.inl rfl))
 |false=>
 cases bs:decide (u.jf=2)with
 |false=>
  simp[aA,bs];exact a8
 |true=>
  have bW:∀r∈jA e,ju r y.kM.length=true:=λr hr=>by have:=b9 r hr;exact fI.2 ⟨D,D⟩
  have c9:abe e y:=λk=>by
   have hr:e.c∈jA e:=by unfold jA;rcases k with k|k<;>simp[k]
   have:=b9 _ hr;exact fI.2 ⟨D,D⟩
  obtain⟨_,⟨O,rfl⟩,bA⟩:=EJ.use (e,y) c9;simp only at bA;simp[aA,bs,Xd,bA];refine fw (λI=>?_) (λI=>?_)
  ·simp;exact a8
  have bT:nW e.op≠0:=by simpa using I
  simp;generalize L:H.cons _ _=E;have al:iE 6 E:=by rw[<-L];exact⟨Y,Y,Y⟩
  have cX:E.get 2=some (dS 7 0 [.agg [G 0,G 0,G 0,G 0,G 0,dR,dR]]):=by rw[<-L];simp
  have R:E.get 3=some (dS 4 1 [y.t]):=by rw[<-L];simp
  have S:E.get 4=some (dS 6 1 [e.t]):=by rw[<-L];simp
  have w:∃av,E.get 5=some (dS 7 av [.agg [G p,G (nW e.op),G O,G 0,G e.jK,dR,dR]]):=⟨3,by rw[<-L];simp⟩;clear L;obtain⟨dn,w⟩:=w;have an:∀{r:Int},r∈jA e->∃j,kT r=some r.toNat/\y.kM[r.toNat]? =some j/\j.length<=1000000:=λ{r} hr=>by
   have⟨j,hl,_⟩:=iU (bW r hr);exact⟨j,fy (fI.1 (bW r hr)).1,hl,bX y (ay bp) j (ay hl)⟩
  have ec:iE 0 E:=⟨al.hp,al.low,aw _⟩;have eo:=al.sz;have Z:PJ p y e O E dR [] dn:=⟨al,cX,R,S,w,Gr.nil _ _,Y,λd I=>by simp at I⟩;refine kP (λM h'=>∃U J av,PJ p y e O h' U J av/\dT M 6 (.ptr 2 0 0 0)/\dT M 8 (.ptr 3 0 0 0)/\dT M 9 (.ptr 4 0 0 0)/\dT M 10 (.ptr 5 0 0 0)) (λcp=>?_) (λcp=>?_) ?_
  ·have W:e.op=10:=by simpa using cp
   have⟨j,l1,l2,l3⟩:=an (r:=e.a) (by unfold jA;simp[W]);have⟨ap,o,C,Q,P,A,ca,fin⟩:=Z.app j l3;have sv:=λd (m:d<6)=>fZ (A d m);have B:=(A 5 D).trans w;simp[R,S,w,l1,l2,C,Q,P,B,eZ];exact⟨_,_,_,fin _ rfl⟩
  ·cases T:decide (e.op=7)with
   |true=>
    have⟨j,l1,l2,l3⟩:=an (r:=e.c) (by unfold jA;simp[show e.op=7 by simpa using T]);have⟨ap,o,C,Q,P,A,ca,fin⟩:=Z.app j l3;have sv:=λd (m:d<6)=>fZ (A d m);have B:=(A 5 D).trans w;simp[T,R,S,w,l1,l2,C,Q,P,B,eZ];exact⟨_,_,_,fin _ rfl⟩
   |false=>
   cases aE:decide (e.op=9)with
   |true=>
    have⟨j,l1,l2,l3⟩:=an (r:=e.c) (by unfold jA;simp[show e.op=9 by simpa using aE]);have⟨ap,o,C,Q,P,A,ca,fin⟩:=Z.app j l3;have sv:=λd (m:d<6)=>fZ (A d m);have B:=(A 5 D).trans w;simp[T,aE,R,S,w,l1,l2,C,Q,P,B,eZ];exact⟨_,_,_,fin _ rfl⟩
   |false=>
    simp[T,aE];exact⟨_,_,_,Z⟩
  rintro M h' ⟨U,J,av,i,bB,c7,bC,W⟩;have eh:=i.ok.sz;have dm:iE 0 h':=⟨i.ok.hp,i.ok.low,aw _⟩;simp[bC,i.b4];refine fw (λI=>?_) (λI=>?_)
  ·have dd:e.op=8\/e.op=9\/e.op=26:=by
    simp only[cr,aK]at I;omega
   have⟨j,l1,l2,l3⟩:=an (r:=e.b) (by unfold jA;rcases dd with k|k|k<;>simp[k]);have⟨ap,o,C,aX,F,c1,_⟩:=OO dm j l3;have sv:=λd (m:d<6)=>fZ (F.get d D);have ds:=(F.get 2 D).trans i.b2;have B:=(F.get 5 D).trans i.b5;have N:∀h d,(fg o 5 h).get d=if d=5 then some h else o.get d:=λh d=>ee B h d;have a6:∀h q d,(fg (fg o 5 h) 2 q).get d=if d=2 then some q else if d=5 then some h else o.get d:=λh q d=>by
    rw[nM (by simp;exact F.ok.hp) (by have:=F.ok.sz;simp;omega),N]
   have aN:∀h q,TI.fz (fg (fg o 5 h) 2 q) U=some (sl (ij J)):=λh q=>(i.g.mono (h':=fg (fg o 5 h) 2 q) λd m=>by
    have⟨_,_,_,_,di,_⟩:=i.g.box m;have:=i.bx d m;rw[a6,ao D,ao D];exact F.get d (H.fG di)).fz Y
   have c4:∀h q,TI.fz (fg (fg o 5 h) 2 q) ap=some (sl (ij j)):=λh q=>(aX.mono (h':=fg (fg o 5 h) 2 q) λd m=>by
    have:=c1 d m;rw[a6,ao D,ao D]).fz Y
   simp[bB,c7,bC,W,i.b3,i.b4,i.b5,l1,l2,C,aX.iN,aX.cells,ds,B,N,a6,aN,c4,eZ,F.ok.hp];exact ae ⟨p,nW e.op,O,0,e.jK,J,j⟩ ⟨i.l,l3⟩ (.inr (.inr ⟨rfl,bT⟩))
  ·have N:∀h d,(fg h' 2 h).get d=if d=2 then some h else h'.get d:=λh d=>ee i.b2 h d;have aN:∀h,TI.fz (fg h' 2 h) U=some (sl (ij J)):=λh=>(i.g.mono (h':=fg h' 2 h) λd m=>by
    have:=i.bx d m;rw[N,ao D]).fz Y
   simp[bB,W,i.b2,i.b5,N,aN,eZ,i.ok.hp];exact ae ⟨p,nW e.op,O,0,e.jK,J,[]⟩ ⟨i.l,Y⟩ (.inr (.inr ⟨rfl,bT⟩))
structure XC(n0:Nat)(h':H)(ct:T)(es:List T)(ts:List fH)(lo hi:Nat->Nat):Prop where
 g:Gr h' ct 4 es
 l:es.length=ts.length
 e:∀(i:Nat) (e:T) (t:fH),es[i]? =some e->ts[i]? =some t->∃a b el,e=Dw t a b/\C3 (lo i) (hi i) h' a b el t
 m:∀i,i<ts.length->n0<=lo i/\hi i<=h'.size
 d:∀i j,i<j->j<ts.length->hi i<=lo j
 c:∀c,eG ct=some c->n0<=c/\∀i,i<ts.length->¬(lo i<=c/\c<hi i)
def XC.mono{j:Nat}{f h':H}{k:T}{n:List T}{s:List fH}{q h:Nat->Nat}(b:XC j f k n s q h)(C:f.size<=h'.size)(p:∀a,j<=a->a<f.size->h'.get a=f.get a):XC j h' k n s q h:=
 ⟨b.g.mono λa r=>p a (b.c a r).1 (by have⟨_,_,_,_,z,_⟩:=b.g.box r;exact H.fG z),b.l,λi v B A o=>by
   have⟨t,u,y,w,x⟩:=b.e i v B A o;have E:=b.m i (by have:=(List.getElem?_eq_some_iff.1 o).1;exact this);exact⟨t,u,y,w,x.mono (au _) (au _) λa F I=>p a D D⟩,λi h=>by have:=b.m i h;omega,b.d,b.c⟩
def XC.app{y:Nat}{o r E:H}{v B:T}{w:List T}{i:List fH}{I h:Nat->Nat}(f:XC y o v w i I h)(X:y<=o.size)(J:Nb o r){s t:T}{C:List T}{u:fH}(V:C3 o.size r.size r s t C u)(x:Xt r v 4 (w++[Dw u s t]) B E):
 XC y E B (w++[Dw u s t]) (i++[u]) (λa=>if a=i.length then o.size else I a) (λa=>if a=i.length then r.size else h a):=by
 have ae:=J.ok.sz;have al:=x.2.2.2.sz;have A:∀b,eG v=some b->b<o.size:=λb q=>by have⟨_,_,_,_,R,_⟩:=f.g.box q;exact H.fG R
 refine⟨x.1,by simp[f.l],λa N W p k=>?_,λa h=>?_,λa F S U=>?_,λb q=>?_⟩
 ·by_cases q:a=i.length
  ·subst q;rw[cZ (au _),Nat.sub_self]at k;rw[cZ (by rw[f.l];exact au _),f.l,Nat.sub_self]at p;simp at p k;subst p;subst k;refine⟨s,t,C,rfl,?_⟩;simp only[bj];exact V.mono (au _) (au _) λb K z=>x.2.1 b z λq=>by have:=A b q;omega
  ·have h:a<i.length:=by have:=(List.getElem?_eq_some_iff.1 k).1;simp at this;omega
   rw[cv h]at k;rw[cv (by rw[f.l];exact h)]at p;have⟨L,M,Q,O,P⟩:=f.e a N W p k;have Z:=f.m a h;rw[ao q,ao q];exact⟨L,M,Q,O,P.mono (au _) (au _) λb K z=>(x.2.1 b D λq=>((f.c b q).2 a h ⟨K,z⟩)).trans (J.get b D)⟩
 ·simp at h;by_cases q:a=i.length
  ·rw[aq q,aq q];omega
  ·rw[ao q,ao q];have:=f.m a D;omega
 ·simp at U;by_cases q:F=i.length
  ·rw[ao D,aq q];have:=f.m a D;omega
  ·rw[ao D,ao q];exact f.d a F S D
 ·rcases x.2.2.1 b q with q|q
  ·refine⟨(f.c b q).1,λa h=>?_⟩;simp at h;by_cases j:a=i.length
   ·rw[aq j,aq j];have:=A b q;omega
   ·rw[ao j,ao j];exact(f.c b q).2 a D
  ·refine⟨D,λa h=>?_⟩;simp at h;by_cases j:a=i.length
   ·rw[aq j,aq j];omega
   ·rw[ao j,ao j];have:=f.m a D;omega
def Ld{b f:Type}{c:f->b->Prop}{d:b->f}(e:∀x,c (d x) x):∀a:List b,jh c (a.map d) a
 | []=> .nil
 |x::a=> .cons (e x) (Ld e a)
def ZA(a:jo)(d:List T)(c:H):Prop:=d=[a.t]/\iE 0 c/\GU a.fN [a.fN.t] c/\a.cells.length<=1000000/\a.fa.length<=1000000/\a.dW.length<=1000000/\∀b∈a.dW,b.jy.length<=1000000/\b.kM.length<=1000000/\∀e∈b.kM,e.length<=1000000
structure Cp9(s:jo)(h h':H)(c0 c2 c3 cc cf ct:T)(es:List T)(lo hi:Nat->Nat)(n0:Nat):Prop where
 nb:Nb h h'
 z:h.size<=n0
 zn:n0<=h'.size
 k0:c0.iN=true/\c0.cells=[c0]/\c2.iN=true/\c2.cells=[c2]/\c3.iN=true/\c3.cells=[c3]
 gc:Gr h' cc 1 (ij s.cells)
 gf:Gr h' cf 1 (ij s.fa)
 bc:∀c,eG cc=some c->h.size<=c/\c<n0
 bf:∀c,eG cf=some c->h.size<=c/\c<n0/\eG cc≠some c
 th:XC n0 h' ct es s.dW lo hi
def R1(g:jo)(o:List T)(i:H)(n:T)(j:H):Prop:=∃a b c d e f h l k m,n= .agg [a,G g.fN.tx,b,c,d,e,f]/\Cp9 g i j a b c d e f h l k m
structure Cq(s:jo)(h:H)(c0 c2 c3 cc cf:T)(q:Nat)(h':H)(k:Nat)(ct:T)(es:List T)(lo hi:Nat->Nat)(ver:Nat):Prop where
 nb:Nb h h'
 b1:h'.get h.size=some (dS 7 0 [s.t])
 b2:h'.get (h.size+1)=some (dS 7 0 [.agg [dR,G 0,dR,dR,dR,dR,dR]])
 b3:h'.get q=some (dS 7 ver [.agg [c0,G s.fN.tx,c2,c3,cc,cf,ct]])
 gc:Gr h' cc 1 (ij s.cells)
 gf:Gr h' cf 1 (ij s.fa)
 th:XC (q+1) h' ct es (s.dW.take k) lo hi
def SU:(jY jo ZA R1).Ok prog cx 167:=by
 refine jV (tb:=⟨pt [],ht [(47,jY gh GU LX),(210,jY ICp RN LW)]⟩) jg iT (jr 2097183 [(1,[(2,3),(2,5),(2,7),(6,7),(2,9),(6,9),(2,12),(6,12),(10,12)]),(5,[(1,7)])] func167) (λ_ _=>1000005) (λw r d eM=>by obtain⟨rfl,_⟩:=eM;simp[f167]) ?_;rintro h _ d ⟨rfl,eV,⟨_,_,p1,p2,p3,p4⟩,fP,fS,fX,eP⟩ N c9;simp at c9;have b9:=eV.hr;simp[f167,c9];generalize J:H.cons _ _=I;have e0:iE 0 I:=by rw[<-J];exact(b9.cons _).cons _
 have gE:I.size=d.size+1+1:=by rw[<-J];rfl
 have eU:Nb d I:=by rw[<-J];exact⟨(((Nb.refl b9).cons _).cons _).ok,λa k=>((((Nb.refl b9).cons _).cons _).get a k).trans (iI d a)⟩
 have cp:I.get d.size=some (dS 7 0 [h.t]):=by rw[<-J];simp
 have cF:I.get (d.size+1)=some (dS 7 0 [.agg [dR,G 0,dR,dR,dR,dR,dR]]):=by rw[<-J];simp
 clear J;refine lH EM Y h.fN ⟨rfl,e0,p1,p2,p3,p4⟩ ?_;rintro _ b ⟨s,u,v,fv,rfl,M,F⟩;have gv:=F.ok.sz;have de:iE 0 b:=⟨F.ok.hp,F.ok.low,aw _⟩;have a1:=(F.get d.size D).trans cp;have a2:=(F.get (d.size+1) D).trans cF;have⟨an,Z,bA,⟨gj,gm,bB⟩,ef,W,okB⟩:=kQ (cx:=cx) (sz:=1) de (x:=sl (h.cells.map (T.int .i64))) (xs:=h.cells.map (T.int .i64)) qv rfl zv qv rfl rfl Y Y (by simp[T.cells]) dN;have⟨ap,O,al,⟨gk,gn,av⟩,fi,K,b8⟩:=kQ (cx:=cx) (sz:=1) okB (x:=sl (h.fa.map (T.int .i64))) (xs:=h.fa.map (T.int .i64)) qv rfl zv qv rfl rfl Y Y (by simp[T.cells]) dN;have c1:∀a,a<b.size->fQ (b.cons (dS 1 0 [])) Z a=true:=λa k=>fZ ((W a k).trans (by rw[ez,ao D]));have c4:∀a,a<Z.size->fQ (Z.cons (dS 1 0 [])) O a=true:=λa k=>fZ ((K a k).trans (by rw[ez,ao D]));have ds:=fZ (F.get d.size D);have ea:=c1 d.size D;have e4:=c4 d.size D;have eb:∀a,b.size+1<=a->fQ (b.cons (dS 1 0 [])) Z a=true:=λa k=>jw (mv _ dN);have ec:∀a,b.size+2<=a->fQ (Z.cons (dS 1 0 [])) O a=true:=λa k=>jw (mv _ dN);have cb:∀a,b.size<=a->fQ I b a=true:=λa k=>jw (mv _ D);have bu:=(W d.size D).trans a1;have cL:=(K d.size D).trans bu;have cX:=(K (d.size+1) D).trans ((W (d.size+1) D).trans a2);have fY:=de.low;have gd:=okB.low;have gg:=b8.low;simp only[aG]at bA al bB av;rw[ef]at al av;have fe:(d.size=b.size)=False:=dN;have gw:(d.size+1=b.size)=False:=dN;have ff:(d.size=b.size+1)=False:=dN;have gy:(d.size+1=b.size+1)=False:=dN;have dv:=cb (b.size+1+1) D;have eK:s.iN=true/\s.cells=[s]/\u.iN=true/\u.cells=[u]/\v.iN=true/\v.cells=[v]:=⟨M.g0.iN,M.g0.cells,M.g2.iN,M.g2.cells,M.g3.iN,M.g3.cells⟩;obtain⟨eu,ey,eA,eB,eC,eD⟩:=eK;simp[Pb,a1,bA,al,ef,fi,bu,ds,ea,cb,eb,ec,fe,ff,dv];have gi:d.size+1<b.size+1+1:=D;have fo:O.size=b.size+1+1:=D;generalize U:O.cons ⟨7,0,0,true,false,_⟩=S;have fb:S.size=b.size+1+1+1:=by rw[<-U];simp[size_cons,fo]
 have eX:iE 0 S:=by rw[<-U];exact iE.cons ⟨b8.hp,b8.low,aw _⟩ _
 have bC:S.get (b.size+1+1)=some (dS 7 0 [.agg [dR,G 0,dR,dR,dR,dR,dR]]):=by
  rw[<-U,ez,aq D]
 have dd:∀a,a<b.size+1+1->S.get a=O.get a:=λa k=>by rw[<-U,ez,ao D]
 generalize V:fg S _ _=E;have gD:E.size=b.size+1+1+1:=by rw[<-V,ig,fb]
 have dk:iE 0 E:=by rw[<-V];exact eX.put _ _
 have eE:=(show E.get (b.size+1+1)=some (dS 7 1 [.agg [s,G h.fN.tx,u,v,.arr b.size an 0 h.cells.length false,.arr (b.size+1) ap 0 h.fa.length false,dR]])by rw[<-V];exact(ee bC _ _).trans (aq rfl));have L:∀a,a<b.size+1+1->E.get a=O.get a:=λa k=>by rw[<-V,ee bC,ao D];exact dd a k
 clear V U;have bH:Gr E (.arr b.size an 0 h.cells.length false) 1 (ij h.cells):=by
  have:=Gr.new (((L b.size D).trans (K b.size D)).trans bB);simpa using this
 have bN:Gr E (.arr (b.size+1) ap 0 h.fa.length false) 1 (ij h.fa):=by
  have:=Gr.new ((L (b.size+1) D).trans av);simpa using this
 have eS:Nb d E:=⟨⟨dk.hp,dk.low,D⟩,λa k=>(L a D).trans ((K a D).trans ((W a D).trans ((F.get a D).trans (eU.get a k))))⟩;have eh:=(L d.size D).trans cL;have eo:=(L (d.size+1) D).trans cX;have ae:∀a,eG (.arr b.size an 0 h.cells.length false)=some a->a=b.size:=λa i=>by simpa using i.symm
 have P:∀a,eG (.arr (b.size+1) ap 0 h.fa.length false)=some a->a=b.size+1:=λa i=>by simpa using i.symm
 generalize T.arr b.size an 0 h.cells.length false=B at*
 generalize T.arr (b.size+1) ap 0 h.fa.length false=C at*
 have bi:∀a,eG B=some a->d.size<=a/\a<b.size+1+1+1:=λa i=>by have:=ae a i;omega
 have bn:∀a,eG C=some a->d.size<=a/\a<b.size+1+1+1/\eG B≠some a:=λa i=>⟨by have:=P a i;omega,by have:=P a i;omega,λca=>by have:=ae a ca;have:=P a i;omega⟩;have dm:∀a,eG B=some a->a≠b.size+1+1/\a≠d.size+1:=λa i=>by have:=ae a i;omega
 have dn:∀a,eG C=some a->a≠b.size+1+1/\a≠d.size+1:=λa i=>by have:=P a i;omega
 clear ae P bA al bB av ds ea e4 cb eb ec dv W K c1 c4 bu cL cX a1 a2 cp cF L dd bC;generalize b.size+1+1=i at*
 have fA:=bH.iN;have fB:=bH.cells;have fC:=bN.iN;have fE:=bN.cells;refine uH h.dW.length (λo N h'=>∃p R a8 a6 X,Cq h d s u v B C i h' o p R a8 a6 X/\dT N 1 (.ptr d.size 0 0 0)/\dT N 2 (.ptr (d.size+1) 0 0 0)/\dT N 3 (.ptr i 0 0 0)/\dT N 4 (G o)) ?_ D (aw _) ?_
 ·rintro o N h' fW ⟨p,R,a8,a6,X,f,bS,c6,aN,bT⟩;simp[bS,bT,f.b1];refine fw (λbW=>?_) (λbW=>?_)
  ·have bX:o<h.dW.length:=by simpa using bW
   have⟨m,a7⟩:∃m,h.dW[o]? =some m:=⟨_,az bX⟩;have eL:h.dW[o]=m:=by rw[az bX]at a7;simpa using a7
   have b7:=eP m (ay a7);simp[bS,aN,bT,f.b1,f.b3,bX,eL];have eW:iE 0 h':=⟨f.nb.ok.hp,f.nb.ok.low,aw _⟩;refine lH JT Y ⟨m,sl (ij m.jy),sl (m.kM.map tn1),m.kM.map tn1⟩ ⟨by rfl,⟨.inl rfl,.inl rfl,?_,?_⟩,eW,b7.1,b7.2.1,b7.2.2⟩ ?_
   ·exact Ld (λeR=> .inl rfl) _
   ·rintro e a (rfl|rfl|he) x
    ·simp at x
    ·simp at x
    ·obtain⟨eR,_,rfl⟩:=List.mem_map.1 he;simp[tn1]at x
   rintro _ aE ⟨r,A,fs,rfl,e9,q⟩;have ca:i+1<=h'.size:=by have:=H.fG f.b3;omega
   have p3:=(q.get i D).trans f.b3;have eF:Gr aE p 4 R:=f.th.g.mono λa x=>q.get a (by have⟨_,_,_,_,et,_⟩:=f.th.g.box x;exact H.fG et);have⟨bp,aX,er,z⟩:=eF.FZ (cx:=cx) ⟨q.ok.hp,q.ok.low,aw _⟩ Ol rfl Oh rfl Y (x:=Dw m r A) rfl (by have:=f.th.l;simp at this;simp;omega);have e7:=fZ (q.get i D);have e6:∀a,a<aE.size->eG p≠some a->fQ (aE.cons (dS 4 0 [Dw m r A])) aX a=true:=λa k b6=>fZ ((z.2.1 a k b6).trans (by rw[ez,ao D]));have bs:eG p≠some i:=λx=>by have:=(f.th.c i x).1;omega
   have e5:=e6 i (by have:=q.ok.sz;omega) bs;have p4:=(z.2.1 i (by have:=q.ok.sz;omega) bs).trans p3;have eH:(Dw m r A).iN=true/\(Dw m r A).cells=[G m.pC,r,A,G m.dY]:=by simp[Dw,T.cells]
   have fL:Dw m r A= .agg [G m.pC,r,A,G m.dY]:=rfl;simp[aN,bT,er,e7,eH,e5,p4,z.1.iN,z.1.cells,eZ];rw[iZ D D];simp;refine⟨o+1,D,D,⟨bp,R++[Dw m r A],λw=>if w=(h.dW.take o).length then h'.size else a8 w,λw=>if w=(h.dW.take o).length then aE.size else a6 w,X+1,?_⟩,bS,c6,aN,Y⟩;have gz:=z.2.2.2.sz;have gB:=q.ok.sz;have gq:∀a,a<h'.size->a≠i->eG p≠some a->(fg aX i (dS 7 (X+1) [.agg [s,G h.fN.tx,u,v,B,C,bp]])).get a=h'.get a:=λa k eN b6=>by
    rw[ee p4,ao eN,z.2.1 a D b6,q.get a k]
   have Q:∀a,a<=i->eG p≠some a:=λa k x=>by have:=(f.th.c a x).1;omega
   have di:iE 0 aX:=⟨z.2.2.2.hp,z.2.2.2.low,aw _⟩;refine⟨⟨⟨(di.put _ _).hp,(di.put _ _).low,by rw[ig];have:=f.nb.ok.sz;omega⟩,λa k=>(gq a D D (Q a D)).trans (f.nb.get a k)⟩,
    (gq _ D D (Q _ D)).trans f.b1,(gq _ D D (Q _ D)).trans f.b2,(ee p4 _ _).trans (aq rfl),
    f.gc.mono λa x=>gq a (by have:=bi a x;omega) (dm a x).1 (Q a (by have:=bi a x;omega)),f.gf.mono λa x=>gq a (by have:=bn a x;omega) (dn a x).1 (Q a (by have:=bn a x;omega)),?_⟩
   have e8:=(f.th.app ca q e9 z).mono (h':=fg aX i (dS 7 (X+1) [.agg [s,G h.fN.tx,u,v,B,C,bp]])) (by rw[ig];exact au _) λa x _=>by rw[ee p4,ao D]
   have eO:h.dW.take (o+1)=h.dW.take o++[m]:=by rw[dx,a7];rfl
   rw[eO];exact e8
  ·have eI:o=h.dW.length:=by
    have:¬o<h.dW.length:=by simpa using bW
    omega
   subst eI;have c7:=f.th;rw[aI]at c7;have bs:∀a,eG p=some a->i+1<=a:=λa x=>(f.th.c a x).1;simp[c6,aN,f.b2,f.b3,eZ,ee f.b2];have aA:∀a,a≠d.size+1->(mK d (fg h' (d.size+1) (dS 7 1 [.agg [s,G h.fN.tx,u,v,B,C,p]]))).get a=h'.get a:=λa k=>by rw[il,ee f.b2,ao k]
   refine⟨s,u,v,B,C,p,R,a8,a6,i+1,rfl,⟨⟨((iE.put (n:=0) ⟨f.nb.ok.hp,f.nb.ok.low,aw _⟩ _ _).out d).hp,((iE.put (n:=0) ⟨f.nb.ok.hp,f.nb.ok.low,aw _⟩ _ _).out d).low,by rw[wa,ig];exact f.nb.ok.sz⟩,λa k=>(aA a D).trans (f.nb.get a k)⟩,D,by rw[wa,ig];exact H.fG f.b3,⟨eu,ey,eA,eB,eC,eD⟩,
    f.gc.mono λa x=>aA a (dm a x).2,f.gf.mono λa x=>aA a (dn a x).2,bi,bn,c7.mono (by rw[wa,ig];exact au _) λa x _=>aA a D⟩
 ·refine⟨dR,[],λ_=>0,λ_=>0,1,⟨eS,eh,eo,eE,bH,bN,⟨Gr.nil _ _,rfl,λw e m x=>by simp at x,λw x=>by simp at x,λw j x y=>by simp at y,λa x=>by simp at x⟩⟩,Y⟩
section
def UK{j:Out}{e f:jp}(o:W j e)(q:∀d h,e.n d h->f.n d h)(v:∀i d h,e.x i d h->f.x i d h)(u:∀d h,e.r d h->f.r d h):W j f:=by
 obtain⟨l,d,h,m,g⟩:=o;refine⟨l,d,h,m,?_⟩;cases l with
 |normal=>exact q d h g
 |exit i=>exact v i d h g
 |ret=>exact u d h g
def U2{cx:Ctx}{cf:jB}{z y id:Nat}{u:DL}{t:Bool}{a b:Code}{m:Env->H->Out}{d:Env}{h:H}{f:jp}(l:iz->H->Prop)(v:CK (some (.bool t)) cx cf z y u a b d h (Ie m (un id (Ai (λd h=>d.tmps= .nil/\l d.vars h) f))))
 (B:∀o h,l o h->f.n ⟨o,.nil⟩ h):CK (some (.bool t)) cx cf z y u a b d h (Ie m (un id f)):=by
 have q:∀d h,(d.tmps= .nil/\l d.vars h)->f.n d h:=λd h ⟨e,w⟩=>by obtain⟨o,C⟩:=d;simp only at e w;subst e;exact B o h w
 have A:∀g,W g (un id (Ai (λd h=>d.tmps= .nil/\l d.vars h) f))->W g (un id f):=λg r=>UK r q (λi d h e=>by
  rw[Bh]at e|-;split
  ·rename_i j;rw[aq j]at e;exact q d h e
  ·rename_i j;rw[ao j]at e;exact e) λ_ _ e=>e
 have x:∀g,W g (Ie m (un id (Ai (λd h=>d.tmps= .nil/\l d.vars h) f)))->W g (Ie m (un id f)):=λg r=>UK r (λd h e=>A _ e) (λi d h e=>by
  rw[aae,Bh]at e|-;split
  ·rename_i j;rw[aq j]at e;exact q d h e
  ·rename_i j;rw[ao j]at e;exact e) λ_ _ e=>e
 cases t
 ·exact x _ v
 ·exact x _ v
structure StI(s:jo):Prop where
 l:s.fN.fj.length<=1000/\s.fN.done.length<=1000/\s.fN.dW.length<=1000/\s.cells.length<=1000/\s.fa.length<=1000/\s.dW.length<=1000
 r:F3 4 s.fN
 a:s.fN.BL
 t:∀t∈s.dW,YS 1000000 t
def evB(d:Nat)(s:jo):Prop:=∀t∈s.dW,0<=t.dY/\t.dY<=d
def adj(s:jo)(j:T):Prop:=∃(d:jo) (f:fk) (g:Bool),j= .tuple [d.t,f.t,.bool g]/\evN 1000000 f/\(g=true->StI d/\∀e:Nat,evB e s->evB (e+1) d)
def C3.NW{lo l hi j:Nat}{h h':H}{a b:T}{es:List T}{s:fH}(t:C3 lo hi h a b es s)(hl:l<=lo)(r:hi<=j)(f:∀e,(e=a\/e=b\/e∈es)->∀c,eG e=some c->h'.get c=h.get c):C3 l j h' a b es s:=
 ⟨t.ga.mono λc d=>f a (.inl rfl) c d,t.gb.mono λc d=>f b (.inr (.inl rfl)) c d,t.el.imp_mem λm n u d=>⟨d.1.mono λc g=>f m (.inr (.inr n)) c g,λc g=>by
   have⟨v,w,o,q⟩:=d.2 c g;exact⟨D,D,o,q⟩⟩,λc d=>by have:=t.ba c d;exact⟨D,D,this.2.2⟩,λc d=>by have:=t.bb c d;exact⟨D,D⟩⟩
def C3.fzB{lo hi:Nat}{h:H}{a b:T}{es:List T}{s:fH}(t:C3 lo hi h a b es s)(o:Nat->Prop)(n:∀m,(m=a\/m=b\/m∈es)->∀c,eG m=some c->o c):jh (FT h o 3) [G s.pC,a,b,G s.dY] s.cs:=
 .cons (iC ..) (.cons ((show qA h 1 a (ij s.jy)from .inr t.ga).ft (d:=1) (Ks _) λc g=>n a (.inl rfl) c g)
  (.cons (t.gb.ft (λc g=>n b (.inr (.inl rfl)) c g) ((t.el.imp_mem (R':=λe j=>qA h 1 e (ij j)/\e∈es) λe q j l=>⟨l.1,q⟩).Z7 (f:=λj=>sl (ij j)) λe j l=>l.1.ft (d:=0) (Ks _) λc g=>n e (.inr (.inr l.2)) c g)) (.cons (iC ..) .nil)))
def DS{g j:Type}{l:g->j->Prop}:∀{e:List g} {f:List j},e.length=f.length->(∀(d:Nat) (a:g) (b:j),e[d]? =some a->f[d]? =some b->l a b)->jh l e f
 | [],[],_,_=> .nil
 |a::e,b::f,hl,h=> .cons (h 0 a b rfl rfl) (DS (by simpa using hl) λd o q m n=>h (d+1) o q (by simpa using m) (by simpa using n))
 | [],_::_,hl,_=>by simp at hl
 |_::_,[],hl,_=>by simp at hl
structure SJ(c:ky)(s:jo)(ch:gJ)(i:io)(S:gh)(k p n0:Nat)(cc cf ct:T)(es:List T)(lo hi:Nat->Nat)(a b:T)(el:List T)(t:fH)(h:H):Prop where
 ok:iE 0 h
 z:p+1+1<=h.size
 n7:7<=n0
 np:n0<=p
 b0:h.get 0=some (dS 7 0 [c.t])
 b1:h.get 1=some (dS 7 2 [.agg [sl (S.fj.map em.t),G S.tx,sl (S.done.map T.bool),sl (S.dW.map dZ.t),cc,cf,ct]])
 b2:h.get 2=some (dS 2 0 [ch.t])
 b3:h.get 3=some (dS 7 0 [.agg [dR,G 0,dR,dR,dR,dR,dR]])
 b4:h.get 4=some (dS 7 0 [.agg [G 0,G 0,G 0,G 0,G 0,dR,dR]])
 bq:h.get (p+1)=some (dS 6 1 [i.t])
 gc:∃l,Gr h cc 1 (ij l)/\l.length=s.cells.length
 gf:∃l,Gr h cf 1 (ij l)/\l.length=s.fa.length
 bc:∀c,eG cc=some c->7<=c/\c<n0
 bf:∀c,eG cf=some c->7<=c/\c<n0/\eG cc≠some c
 gt:Gr h ct 4 es
 l:es.length=s.dW.length
 m:∀j,j<s.dW.length->n0<=lo j/\hi j<=p
 d:∀i j,i<j->j<s.dW.length->hi i<=lo j
 bt:∀c,eG ct=some c->n0<=c/\c<p/\∀j,j<s.dW.length->¬(lo j<=c/\c<hi j)
 o:∀(j:Nat) (e:T) (u:fH),j≠k->es[j]? =some e->s.dW[j]? =some u->FT h (λc=>lo j<=c/\c<hi j) 4 e u.t
 hk:k<s.dW.length
 ek:∃x y,es[k]? =some (.agg [G x,a,b,G y])
 tx:C3 7 h.size h a b el t
 xb:∀v,(v=a\/v=b\/v∈el)->∀c,eG v=some c->lo k<=c/\(c<hi k\/p+1<c)
section
variable {c:ky}{s:jo}{ch:gJ}{i:io}{S:gh}{k p n0:Nat}{cc cf ct:T}{es:List T}{lo hi:Nat->Nat}{a b:T}{el QT:List T}{t t':fH}{h h':H}
def SJ.gen(e:SJ c s ch i S k p n0 cc cf ct es lo hi a b el t h)(M:iE 0 h')(W:h.size<=h'.size)(u:∀c,c<h.size->c≠5->c≠p->eG cc≠some c->eG cf≠some c->eG a≠some c->eG b≠some c->h'.get c=h.get c)
 (E:∃r,Gr h' cc 1 (ij r)/\r.length=s.cells.length) (F:∃r,Gr h' cf 1 (ij r)/\r.length=s.fa.length) (N:C3 7 h'.size h' a b QT t') (P:∀w,(w=a\/w=b\/w∈QT)->∀c,eG w=some c->lo k<=c/\(c<hi k\/p+1<c)):
 SJ c s ch i S k p n0 cc cf ct es lo hi a b QT t' h':=by
 have X:=e.z;have K:=e.n7;have L:=e.np;have U:=e.m k e.hk;have v:∀q,q<7->eG cc≠some q/\eG cf≠some q/\eG a≠some q/\eG b≠some q:=λq g=>⟨λf=>by have:=e.bc q f;omega,λf=>by have:=e.bf q f;omega,λf=>by have:=(e.tx.ba q f).1;omega,λf=>by have:=(e.tx.bb q f).1;omega⟩;have n:∀q,q<7->q≠5->h'.get q=h.get q:=λq g I=>u q D I D (v q g).1 (v q g).2.1 (v q g).2.2.1 (v q g).2.2.2;have j:∀q,eG a=some q\/eG b=some q->lo k<=q/\(q<hi k\/p+1<q):=λq f=>f.elim (λf=>e.xb a (.inl rfl) q f) λf=>e.xb b (.inr (.inl rfl)) q f;refine⟨M,D,K,L,(n 0 D D).trans e.b0,(n 1 D D).trans e.b1,(n 2 D D).trans e.b2,(n 3 D D).trans e.b3,(n 4 D D).trans e.b4,?_,E,F,e.bc,e.bf,e.gt.mono λq f=>?_,e.l,e.m,e.d,e.bt,λi C O x J A=>?_,e.hk,e.ek,N,P⟩
 ·refine(u (p+1) D D D (λf=>?_) (λf=>?_) (λf=>?_) λf=>?_).trans e.bq
  ·have:=e.bc _ f;omega
  ·have:=e.bf _ f;omega
  ·have:=j _ (.inl f);omega
  ·have:=j _ (.inr f);omega
 ·have B:=e.bt q f;have V:=B.2.2 k e.hk;refine u q D D D (λf=>?_) (λf=>?_) (λf=>?_) λf=>?_
  ·have:=e.bc _ f;omega
  ·have:=e.bf _ f;omega
  ·have:=j _ (.inl f);omega
  ·have:=j _ (.inr f);omega
 ·have y:i<s.dW.length:=(List.getElem?_eq_some_iff.1 A).1;have R:=e.m i y;have Q:hi i<=lo k\/hi k<=lo i:=by
   rcases Nat.lt_or_gt_of_ne x with q|q
   ·exact .inl (e.d i k q e.hk)
   ·exact .inr (e.d k i q y)
  refine(e.o i C O x J A).mono λq g=>⟨g,u q D D D (λf=>?_) (λf=>?_) (λf=>?_) λf=>?_⟩
  ·have:=e.bc _ f;omega
  ·have:=e.bf _ f;omega
  ·have:=j _ (.inl f);omega
  ·have:=j _ (.inr f);omega
def SJ.mono(d:SJ c s ch i S k p n0 cc cf ct es lo hi a b el t h)(y:iE 0 h')(l:h.size<=h'.size)(g:∀c,c<h.size->c≠5->c≠p->h'.get c=h.get c):SJ c s ch i S k p n0 cc cf ct es lo hi a b el t h':=by
 have I:=d.z;have E:=d.n7;have F:=d.np;have C:=d.m k d.hk;have⟨l1,q,n⟩:=d.gc;have⟨l2,r,o⟩:=d.gf;refine d.gen y l (λc u v w _ _ _ _=>g c u v w) ⟨l1,q.mono λe f=>?_,n⟩ ⟨l2,r.mono λe f=>?_,o⟩ (d.tx.NW (au _) l λB j e f=>?_) d.xb
 ·have:=d.bc e f;exact g e D D D
 ·have:=d.bf e f;exact g e D D D
 ·have:=d.xb B j e f;have x:e<h.size:=by
   rcases j with rfl|rfl|j
   ·exact(d.tx.ba e f).2.1
   ·exact(d.tx.bb e f).2
   ·have⟨_,A⟩:=d.tx.el.left j;exact(A.2 e f).2.1
  exact g e x D D 
def SJ.cell(e:SJ c s ch i S k p n0 cc cf ct es lo hi a b el t h){f n q:Nat}{o:Bool}{u:List T}(v:eG cc=some f)(w:h.get f=some ⟨1,n,q,o,false,u⟩)(g:Nat)(j:Int):SJ c s ch i S k p n0 cc cf ct es lo hi a b el t (fg h f ⟨1,n,q+1,o,false,u.set g (G j)⟩)/\∀d,d=5\/d=p->(fg h f ⟨1,n,q+1,o,false,u.set g (G j)⟩).get d=h.get d:=by
 have K:=e.n7;have L:=e.np;have I:=e.bc f v;have J:=e.m k e.hk;have⟨l1,A,y⟩:=e.gc;have⟨l2,B,z⟩:=e.gf;have l:∀d,(fg h f ⟨1,n,q+1,o,false,u.set g (G j)⟩).get d=if d=f then some ⟨1,n,q+1,o,false,u.set g (G j)⟩else h.get d:=λd=>ee w _ d;refine⟨e.gen (e.ok.put _ _) (by rw[ig];exact au _) (λd _ _ _ C _ _ _=>(l d).trans (ao λr=>C (by rw[r];exact v))) ⟨l1.set g j,?_,by simpa using y⟩ ⟨l2,B.mono λd r=>(l d).trans (ao λx=>(e.bf d r).2.2 (by rw[x];exact v)),z⟩ (e.tx.NW (au _) (by rw[ig];exact au _) λF E d r=>(l d).trans (ao λx=>?_)) e.xb,λd hr=>(l d).trans (ao D)⟩
 ·have:=A.setAt v w g (G j) ((l f).trans (aq rfl));simpa[ij,aU]using this
 ·have:=e.xb F E d r;omega
def SJ.fut(e:SJ c s ch i S k p n0 cc cf ct es lo hi a b el t h){f n q:Nat}{o:Bool}{u:List T}(v:eG cf=some f)(w:h.get f=some ⟨1,n,q,o,false,u⟩)(g:Nat)(j:Int):SJ c s ch i S k p n0 cc cf ct es lo hi a b el t (fg h f ⟨1,n,q+1,o,false,u.set g (G j)⟩)/\∀d,d=5\/d=p->(fg h f ⟨1,n,q+1,o,false,u.set g (G j)⟩).get d=h.get d:=by
 have K:=e.n7;have L:=e.np;have y:=e.bf f v;have J:=e.m k e.hk;have⟨l1,B,z⟩:=e.gc;have⟨l2,C,A⟩:=e.gf;have l:∀d,(fg h f ⟨1,n,q+1,o,false,u.set g (G j)⟩).get d=if d=f then some ⟨1,n,q+1,o,false,u.set g (G j)⟩else h.get d:=λd=>ee w _ d;refine⟨e.gen (e.ok.put _ _) (by rw[ig];exact au _) (λd _ _ _ _ E _ _=>(l d).trans (ao λr=>E (by rw[r];exact v))) ⟨l1,B.mono λd r=>(l d).trans (ao λx=>y.2.2 (by rw[<-x];exact r)),z⟩ ⟨l2.set g j,?_,by simpa using A⟩ (e.tx.NW (au _) (by rw[ig];exact au _) λI F d r=>(l d).trans (ao λx=>?_)) e.xb,λd hr=>(l d).trans (ao D)⟩
 ·have:=C.setAt v w g (G j) ((l f).trans (aq rfl));simpa[ij,aU]using this
 ·have:=e.xb I F d r;omega
end
def yl{d k:Int}(h:nW d=k)(f:k≠0):(k=3->d=6\/d=7)/\(k=4->d=8\/d=9)/\(k=5->d=10)/\(k=22->d=26)/\(k=23->d=27):=by
 have g:6<=d/\d<=28:=by
  unfold nW at h;split at h
  ·exact absurd h.symm f
  ·omega
 have e:d=6\/d=7\/d=8\/d=9\/d=10\/d=11\/d=12\/d=13\/d=14\/d=15\/d=16\/d=17\/d=18\/d=19\/d=20\/d=21\/d=22\/d=23\/d=24\/d=25\/d=26\/d=27\/d=28:=D;rcases e with rfl|rfl|rfl|rfl|rfl|rfl|rfl|rfl|rfl|rfl|rfl|rfl|rfl|rfl|rfl|rfl|rfl|rfl|rfl|rfl|rfl|rfl|rfl<;>simp[nW,yO]at h<;>omega
def Ln(p:Nat)(d:iz):Prop:=dT d 3 (.ptr 0 0 0 0)/\dT d 4 (.ptr 1 0 0 0)/\dT d 5 (.ptr 2 0 0 0)/\dT d 6 (.ptr 3 0 0 0)/\dT d 7 (.ptr 4 0 0 0)/\dT d 9 (.ptr 5 0 0 0)/\dT d 14 (.ptr p 0 0 0)/\dT d 15 (.ptr (p+1) 0 0 0)
def Ev9(d:fk)(h:H):Prop:=∃e f,h.get 5=some (dS 7 f [fk.t ⟨d.eg,d.kind,d.obj,e,d.jK,d.mE,d.tQ⟩])
def Th9(p:Nat)(a b:T)(e f:Int)(h:H):Prop:=∃d,h.get p=some (dS 4 d [.agg [G e,a,b,G f]])
def SJ.Pv{c:ky}{s:jo}{ch:gJ}{i:io}{S:gh}{k p n0:Nat}{cc cf ct:T}{es:List T}{lo hi:Nat->Nat}{a b:T}{el:List T}{t:fH}{h:H}(e:SJ c s ch i S k p n0 cc cf ct es lo hi a b el t h){u:jv}(j:h.get 5=some u){l m:Int}(ht:Th9 p a b l m h)(d:fk)(f:Int)(g:Nat):
 SJ c s ch i S k p n0 cc cf ct es lo hi a b el t (fg h 5 (dS 7 g [fk.t ⟨d.eg,d.kind,d.obj,f,d.jK,d.mE,d.tQ⟩]))/\Ev9 d (fg h 5 (dS 7 g [fk.t ⟨d.eg,d.kind,d.obj,f,d.jK,d.mE,d.tQ⟩]))/\Th9 p a b l m (fg h 5 (dS 7 g [fk.t ⟨d.eg,d.kind,d.obj,f,d.jK,d.mE,d.tQ⟩])):=by
 have v:=e.n7;have w:=e.np;obtain⟨r,o⟩:=ht;exact⟨e.mono (e.ok.put _ _) (by rw[ig];exact au _) λq _ n _=>(ee j _ q).trans (ao n),⟨f,g,(ee j _ 5).trans (aq rfl)⟩,⟨r,(ee j _ p).trans ((ao D).trans o)⟩⟩
def aio(p:Nat)(ct:T)(m:Int)(h:H):Prop:=∃j d e l g n,h.get p=some (dS 4 n [.agg [G j,d,e,G l]])/\d.iN=true/\d.cells=[d]/\e.iN=true/\e.cells=[e]/\jh (FT h (λf=>f<h.size/\f≠p/\7<=f/\eG ct≠some f) 3) [G j,d,e,G l] (fH.cs g)/\YS 1000000 g/\(g.dY=m+1\/g.dY=0)
def JG:o9 prog cx 128 (λa:ky×jo×gJ=>[a.1.t,a.2.1.t,a.2.2.t]) (λa=>(∀x∈a.1.dW,x.jO.length<=10000001)/\StI a.2.1/\evB 999000 a.2.1) (λa=>adj a.2.1):=by
 refine AA (tb:=⟨pt [(159,B7.jX),(50,sK)],ht [(167,jY jo ZA R1),(168,jY ISe RI EB)]⟩) jg iT (jr 12259964349774246101165194645239424850975965214878597119 [(41,[(1,2)])] func128) (λ_=>100) (λa b h=>by simp at h;exact aD (ky.inj h.1) (aD (jo.inj h.2.1) (gJ.inj h.2.2))) Y nl9 ?_;rintro⟨c,s,ch⟩ ⟨gj,L,gi⟩ bB hj;simp only at gj L gi;simp at hj;obtain⟨kb,av,aA⟩:=hj;have k2:adg 1000000 s:=λt ht bA hl=>((L.t t ht).tn bA hl).1;obtain⟨_,⟨u,hM,rfl,kF,hD⟩,gV⟩:=B7.use (c,s,ch.eg) ⟨gj,k2⟩;simp only at gV hD;have hC:adj s (.tuple [jo.t ⟨⟨[],0,[],[]⟩,[],[],[]⟩,fk.t ⟨0,0,0,0,0,[],[]⟩,.bool false]):=⟨_,_,_,rfl,⟨Y,Y⟩,Y⟩;simp[f128,kb,av,aA,gV];cases hM with
 |false=>
  simp;exact hC
 |true=>
 have⟨t,x,i,ae⟩:=hD rfl;have⟨pb,pd⟩:=KU ae.f.v;have k1:Pj s.fN:=⟨by have:=L.l;omega,by have:=L.l;omega,by have:=L.l;omega,λbA hl=>by have:=L.r.len L.a bA hl;omega,L.a⟩;have gQ:rl prog cx ⟨pt [(159,B7.jX),(50,sK)],ht [(167,jY jo ZA R1),(168,jY ISe RI EB)]⟩ 50 [c.fq.t,s.fN.t,G ch.eg,G u.kind,G u.obj,G ch.rL]=some (Au (c.fq,s.fN,ch.eg,u.kind,u.obj,ch.rL)):=
  iA Y He (c.fq,s.fN,ch.eg,u.kind,u.obj,ch.rL) ⟨dO,k1⟩
 cases gd:je c.fq s.fN ch.eg u.kind u.obj with
 |false=>
  simp[gQ,Au,gd];exact hC
 |true=>
 simp[gQ,Au,gd];generalize kp:fO c.fq s.fN ch.eg u.kind u.obj ch.rL=h6 at*
 obtain⟨S,X⟩:=h6;simp;have hl:=L.l;generalize bT:H.cons _ _=b6;have hL:iE 0 b6:=by rw[<-bT];exact⟨Y,Y,Y⟩
 have m0:b6.size=7:=by rw[<-bT];rfl
 have mb:b6.get 0=some (dS 7 0 [c.t]):=by rw[<-bT];simp
 have mi:b6.get 1=some (dS 7 0 [s.t]):=by rw[<-bT];simp
 have mj:b6.get 2=some (dS 2 0 [ch.t]):=by rw[<-bT];simp
 have mm:b6.get 3=some (dS 7 0 [.agg [dR,G 0,dR,dR,dR,dR,dR]]):=by rw[<-bT];simp
 have mq:b6.get 4=some (dS 7 0 [.agg [G 0,G 0,G 0,G 0,G 0,dR,dR]]):=by rw[<-bT];simp
 have mx:b6.get 5=some (dS 7 1 [u.t]):=by rw[<-bT];simp
 have mA:b6.get 6=some (dS 4 1 [S.t]):=by rw[<-bT];simp
 clear bT;refine jm SU Y s ⟨rfl,hL,⟨rfl,hL,D,D,D,λbA q=>by have:=L.r.len L.a bA q;omega⟩,D,D,D,λW ec=>⟨by have:=(L.t W ec).rl;omega,by have:=(L.t W ec).tl;omega,λbA q=>((L.t W ec).tn bA q).1⟩⟩ ?_;rintro _ c9 ⟨m4,m5,nk,cc,cf,ct,es,lo,hi,n0,rfl,I⟩;have mC:=I.nb.ok.sz;have h3:=I.z;rw[m0]at mC h3;have a1:=(I.nb.get 1 D).trans mi;have h5:=(I.nb.get 6 D).trans mA;have a2:=(I.nb.get 2 D).trans mj;have a0:=(I.nb.get 0 D).trans mb;have⟨eL,nw,eM,c6,c7,nA⟩:=I.k0;have p1:∀y,(fg c9 1 y).get 1=some y:=λy=>(ee a1 y _).trans (aq rfl);have p6:∀y,(fg c9 1 y).get 6=c9.get 6:=λy=>(ee a1 y _).trans (ao D);simp[a1,eZ,p1,p6,h5];generalize eA:fg (fg c9 1 _) 1 _=B;have pm:B.size=c9.size:=by rw[<-eA];simp
 have lg:iE 0 c9:=⟨I.nb.ok.hp,I.nb.ok.low,aw _⟩;have okB:iE 0 B:=by rw[<-eA];exact(lg.put _ _).put _ _
 have hP:=(show B.get 1=some (dS 7 2 [.agg [sl (S.fj.map em.t),G S.tx,sl (S.done.map T.bool),sl (S.dW.map dZ.t),cc,cf,ct]])by rw[<-eA];exact(ee (p1 _) _ _).trans (aq rfl));have cX:∀k,k≠1->B.get k=c9.get k:=λk b7=>by rw[<-eA,ee (p1 _),ao b7,ee a1,ao b7]
 clear eA p1 p6;have hO:=(cX 0 D).trans a0;have hQ:=(cX 2 D).trans a2;have lB:=(cX 5 D).trans ((I.nb.get 5 D).trans mx);have lw:=(cX 3 D).trans ((I.nb.get 3 D).trans mm);have lA:=(cX 4 D).trans ((I.nb.get 4 D).trans mq);have O:=I.th.mono (h':=B) D λk b7 _=>cX k D;have b7:=ae.n;rw[<-ae.f.th]at b7;have⟨e4,Z⟩:=fI.1 b7;have cL:=ae.ht;have fY:∃gX,es[ch.eg.toNat]? =some gX:=⟨_,az (by rw[O.l];exact Z)⟩;obtain⟨gX,eU⟩:=fY;obtain⟨a,b,el,rfl,fb⟩:=O.e _ _ _ eU cL;have⟨F,gZ,hY,ext,hZ,t1,t2,t3,t4⟩:=O.g.Bf (te:=Nu) rfl (i:=ch.eg.toNat) (by rw[O.l];exact Z);rw[show es[ch.eg.toNat]'(by rw[O.l];exact Z)=Dw t a b by rw[az (by rw[O.l];exact Z)]at eU;simpa using eU]at t4;have ia:=okB.low;have m1:∀k,k<7->(k=B.size)=False:=λk b7=>by simp;omega
 have qa:∀k,k<7->(k=B.size+1)=False:=λk b7=>by simp;omega
 have aN:=ae.hx;have hy:=ae.hi;have⟨lu,oV,oW,o1⟩:=ae.f.t _ _ _ cL aN;have lF:=fy lu;simp[hO,hP,hQ,t2,t3,t4,Dw,ia,fy e4,m1,aN,hy,lF];have oB:B.size<B.size+1:=D;generalize eb:fg ((B.cons _).cons _) (B.size+1) _=bp;have pn:bp.size=B.size+1+1:=by rw[<-eb,ig];rfl
 have lh:iE 0 bp:=by rw[<-eb];exact((okB.cons _).cons _).put _ _
 have hV:bp.get B.size=some (dS 4 1 [.agg [G t.pC,a,b,G t.dY]]):=by rw[<-eb,nM ((okB.cons _).cons _).hp (by show _<B.size+1+1;omega),ao D,ez,ao (by show¬_=B.size+1;omega),ez,aq rfl]
 have lD:bp.get (B.size+1)=some (dS 6 1 [i.t]):=by rw[<-eb,nM ((okB.cons _).cons _).hp (by show _<B.size+1+1;omega),aq rfl]
 have hU:∀k,k<B.size->bp.get k=B.get k:=λk b7=>by
  rw[<-eb,nM ((okB.cons _).cons _).hp (by show _<B.size+1+1;omega),ao D,ez,ao (by show¬_=B.size+1;omega),ez,ao D]
 clear eb;have r5:=(hU 5 D).trans lB;have j1:∀y,(fg bp 5 y).get 5=some y:=λy=>(ee r5 y _).trans (aq rfl);simp[hV,r5,pP,j1];have lp:iE 0 (fg bp 5 (dS 7 2 [fk.t ⟨u.eg,u.kind,u.obj,X,u.jK,u.mE,u.tQ⟩])):=lh.put _ _;have eO:∀k,(fg bp 5 (dS 7 2 [fk.t ⟨u.eg,u.kind,u.obj,X,u.jK,u.mE,u.tQ⟩])).get k=_:=λk=>ee r5 _ k;have pE:(fg bp 5 (dS 7 2 [fk.t ⟨u.eg,u.kind,u.obj,X,u.jK,u.mE,u.tQ⟩])).size=bp.size:=ig ..;generalize fg bp 5 (dS 7 2 [fk.t ⟨u.eg,u.kind,u.obj,X,u.jK,u.mE,u.tQ⟩])=bs at*
 have n5:ch.eg.toNat<s.dW.length:=Z;have⟨o0,pa,oC,_,gD,gE,_,gF,_,_,hX,_⟩:=Kt ae.f ae.n;rw[cL]at gD;rw[aN]at gE;simp only[ar]at gD gE;subst gD;subst gE;rw[hy]at gF;simp only[ar]at gF;subst gF;have eC:∀K:Int,u.kind=K->K≠1->K≠17->K≠0->nW i.op=K:=λK av aA bn cF=>by
  rcases ae.k with q|q|q
  ·omega
  ·omega
  ·omega
 have gg:=gd;unfold je at gg;simp only[ax]at gg;have eX:=gg.1.2;have hs:u.kind=3\/u.kind=4->ju u.obj s.cells.length=true:=λq=>by
  rw[ae.f.cl];unfold jN at eX;rcases q with q|q<;>simpa[q]using eX
 have hv:u.kind=22\/u.kind=23->ju u.obj s.fa.length=true:=λq=>by
  rw[ae.f.fu];unfold jN at eX;rcases q with q|q<;>simpa[q]using eX
 have hR:u.kind=3\/u.kind=23\/u.kind=5->0<=i.a/\i.a<x.jy:=λq=>by
  refine hX _ ?_;unfold jA;rcases q with q|q|q
  ·rcases(yl (eC 3 q D D D) D).1 rfl with k|k<;>simp[k]
  ·simp[(yl (eC 23 q D D D) D).2.2.2.2 rfl]
  ·simp[(yl (eC 5 q D D D) D).2.2.1 rfl]
 have hS:u.kind=4\/u.kind=22->0<=i.b/\i.b<x.jy:=λq=>by
  refine hX _ ?_;unfold jA;rcases q with q|q
  ·rcases(yl (eC 4 q D D D) D).2.1 rfl with k|k<;>simp[k]
  ·simp[(yl (eC 22 q D D D) D).2.2.2.1 rfl]
 have P:SJ c s ch i S ch.eg.toNat B.size n0 cc cf ct es lo hi a b el t bs:=by
  have bW:∀k,k<B.size->k≠5->bs.get k=B.get k:=λk av aA=>(eO k).trans ((ao aA).trans (hU k av));have oD:=O.m _ Z;have k9:n0<=B.size:=by have:=I.zn;omega
  refine⟨lp,D,h3,k9,(bW 0 D D).trans hO,(bW 1 D D).trans hP,(bW 2 D D).trans hQ,(bW 3 D D).trans lw,(bW 4 D D).trans lA,?_,
   ⟨_,I.gc.mono λq x=>?_,Y⟩,⟨_,I.gf.mono λq x=>?_,Y⟩,λq x=>?_,λq x=>?_,O.g.mono λq x=>?_,O.l,O.m,O.d,λq x=>?_,λj u W eV fY ec=>?_,Z,⟨_,_,eU⟩,fb.NW D D λa6 e0 q x=>?_,λa6 e0 q x=>?_⟩
  ·exact(eO _).trans ((ao D).trans lD)
  ·have:=I.bc q x;exact(bW q D D).trans (cX q D)
  ·have:=I.bf q x;exact(bW q D D).trans (cX q D)
  ·have:=I.bc q x;omega
  ·have:=I.bf q x;exact⟨D,this.2.1,this.2.2⟩
  ·have⟨_,_,_,_,fA,_⟩:=O.g.box x;have:=(O.c q x).1;exact bW q (H.fG fA) D
  ·have⟨_,_,_,_,fA,_⟩:=O.g.box x;exact⟨(O.c q x).1,H.fG fA,(O.c q x).2⟩
  ·obtain⟨fi,fo,QT,rfl,lG⟩:=O.e j u W fY ec;have k6:=O.m j (List.getElem?_eq_some_iff.1 ec).1;exact .inr (.inr ⟨_,_,rfl,(lG.mono (h':=bs) (au _) (au _) λq av aA=>bW q D D).fz _ λq av aA=>⟨av,aA⟩,rfl⟩)
  all_goals
   have ho:lo ch.eg.toNat<=q/\q<hi ch.eg.toNat:=by
    rcases e0 with rfl|rfl|e0
    ·have:=fb.ba q x;omega
    ·exact fb.bb q x
    ·have⟨_,w⟩:=fb.el.left e0;have:=w.2 q x;exact⟨this.1,this.2.1⟩
  ·exact bW q D D
  ·exact⟨ho.1,.inl ho.2⟩
 refine U2 (λbB h=>Ln B.size bB/\(∃gy,dT bB 16 (G gy))/\SJ c s ch i S ch.eg.toNat B.size n0 cc cf ct es lo hi a b el t h/\Ev9 u h/\Th9 B.size a b t.pC t.dY h) ?_ ?_
 ·have U:=(eO 5).trans (aq rfl);have ea:=(eO B.size).trans ((ao D).trans hV);have eI:Ev9 u bs:=⟨X,2,U⟩;have b9:Th9 B.size a b t.pC t.dY bs:=⟨1,ea⟩;cases nn:decide (u.kind=1)with
  |true=>
   simp[ea,Ln];exact⟨P,eI,b9⟩
  |false=>
  cases cb:decide (u.kind=16)with
  |true=>
   simp[cb,ea,Ln];exact⟨P,eI,b9⟩
  |false=>
  cases c1:decide (u.kind=2)with
  |true=>
   simp[cb,c1,ea,Ln];exact⟨P,eI,b9⟩
  |false=>
  cases c4:decide (u.kind=3)with
  |true=>
   have⟨l1,bX,b8⟩:=P.gc;have bu:=fI.1 (hs (.inl (by simpa using c4)));have⟨p1,R,bC⟩:=(show qA bs 1 cc (ij l1)from .inr bX).idx (te:=HN) rfl rfl (i:=u.obj.toNat) (x:= G l1[u.obj.toNat]) (by simp[b8,bu.2]) rfl;simp[cb,c1,c4,U,P.b1,fy bu.1,R,bC,Ln];exact P.Pv U b9 u _ _
  |false=>
  cases ds:decide (u.kind=23)with
  |true=>
   have⟨l1,bX,b8⟩:=P.gf;have bu:=fI.1 (hv (.inr (by simpa using ds)));have⟨p1,R,bC⟩:=(show qA bs 1 cf (ij l1)from .inr bX).idx (te:=HN) rfl rfl (i:=u.obj.toNat) (x:= G l1[u.obj.toNat]) (by simp[b8,bu.2]) rfl;simp[cb,c1,c4,ds,U,P.b1,fy bu.1,R,bC,Ln];exact P.Pv U b9 u _ _
  |false=>
  have fC:qA bs 1 a (ij t.jy):= .inr P.tx.ga;have e9:∀x y:Int,mG (G x) 0 [G y]=some (G y):=λx y=>rfl;cases dv:decide (u.kind=4)with
  |true=>
   have gB:=hS (.inl (by simpa using dv));have bu:=fI.1 (hs (.inr (by simpa using dv)));have⟨p1,R,bC⟩:=fC.idx (te:=HN) rfl rfl (i:=i.b.toNat) (x:= G t.jy[i.b.toNat]) (by simp[show i.b.toNat<t.jy.length by omega]) rfl;have⟨aX,a7,t5⟩:=P.Pv U b9 u t.jy[i.b.toNat] 3;have c7:=(ee U (dS 7 3 [fk.t ⟨u.eg,u.kind,u.obj,t.jy[i.b.toNat],u.jK,u.mE,u.tQ⟩]) 5).trans (aq rfl);simp[cb,c1,c4,ds,dv,U,ea,P.bq,fy gB.1,R,bC,Ln];generalize fg bs 5 (dS 7 3 [fk.t ⟨u.eg,u.kind,u.obj,t.jy[i.b.toNat],u.jK,u.mE,u.tQ⟩])=aE at*
   have⟨l1,bX,b8⟩:=aX.gc;have⟨q,ap,lW,ha,l7,gv,gw,eE,eF⟩:=bX.Bf (te:=HN) rfl (i:=u.obj.toNat) (by simpa[b8]using bu.2);simp at eF;have⟨gn,eu⟩:=aX.cell gv eE u.obj.toNat t.jy[i.b.toNat];simp[aX.b1,c7,fy bu.1,gw,eE,eF,e9];obtain⟨gM,gP,gm⟩:=a7;obtain⟨eh,di⟩:=t5;exact⟨gn,⟨gM,gP,(eu 5 (.inl rfl)).trans gm⟩,eh,(eu _ (.inr rfl)).trans di⟩
  |false=>
  cases er:decide (u.kind=22)with
  |true=>
   have gB:=hS (.inr (by simpa using er));have bu:=fI.1 (hv (.inl (by simpa using er)));have⟨p1,R,bC⟩:=fC.idx (te:=HN) rfl rfl (i:=i.b.toNat) (x:= G t.jy[i.b.toNat]) (by simp[show i.b.toNat<t.jy.length by omega]) rfl;have⟨aX,a7,t5⟩:=P.Pv U b9 u t.jy[i.b.toNat] 3;have c7:=(ee U (dS 7 3 [fk.t ⟨u.eg,u.kind,u.obj,t.jy[i.b.toNat],u.jK,u.mE,u.tQ⟩]) 5).trans (aq rfl);simp[cb,c1,c4,ds,dv,er,U,ea,P.bq,fy gB.1,R,bC,Ln];generalize fg bs 5 (dS 7 3 [fk.t ⟨u.eg,u.kind,u.obj,t.jy[i.b.toNat],u.jK,u.mE,u.tQ⟩])=aE at*
   have⟨l1,bX,b8⟩:=aX.gf;have⟨q,ap,lW,ha,l7,gv,gw,eE,eF⟩:=bX.Bf (te:=HN) rfl (i:=u.obj.toNat) (by simpa[b8]using bu.2);simp at eF;have⟨gn,eu⟩:=aX.fut gv eE u.obj.toNat t.jy[i.b.toNat];simp[aX.b1,c7,fy bu.1,gw,eE,eF,e9];obtain⟨gM,gP,gm⟩:=a7;obtain⟨eh,di⟩:=t5;exact⟨gn,⟨gM,gP,(eu 5 (.inl rfl)).trans gm⟩,eh,(eu _ (.inr rfl)).trans di⟩
  |false=>
  cases fv:decide (u.kind=5)with
  |false=>
   simp[cb,c1,c4,ds,dv,er,fv,Ln];exact⟨P,eI,b9⟩
  |true=>
   have e8:=hR (.inr (.inr (by simpa using fv)));have⟨p1,R,bC⟩:=fC.idx (te:=HN) rfl rfl (i:=i.a.toNat) (x:= G t.jy[i.a.toNat]) (by simp[show i.a.toNat<t.jy.length by omega]) rfl;have⟨aX,a7,t5⟩:=P.Pv U b9 u 1 3;have c7:=(ee U (dS 7 3 [fk.t ⟨u.eg,u.kind,u.obj,1,u.jK,u.mE,u.tQ⟩]) 5).trans (aq rfl);simp[cb,c1,c4,ds,dv,er,fv,U,Ln];generalize fg bs 5 (dS 7 3 [fk.t ⟨u.eg,u.kind,u.obj,1,u.jK,u.mE,u.tQ⟩])=aE at*
   have⟨p1,R,bC⟩:=(show qA aE 1 a (ij t.jy)from .inr aX.tx.ga).idx (te:=HN) rfl rfl (i:=i.a.toNat) (x:= G t.jy[i.a.toNat]) (by simp[show i.a.toNat<t.jy.length by omega]) rfl;obtain⟨eh,di⟩:=t5;have⟨hG,lT,t6⟩:=aX.Pv c7 ⟨eh,di⟩ u 0 4;have h9:=hG.bq;simp[di,aX.bq,fy e8.1,R,bC];refine fw (λq=>?_) (λq=>?_)
   ·simp[c7,h9];exact⟨hG,lT,t6⟩
   ·simp;exact⟨aX,a7,eh,di⟩
 ·rintro bB h ⟨⟨bn,cF,aE,bH,bN,bS,bi,cp⟩,⟨dk,eR⟩,A,⟨a6,a7,a8⟩,ca,ap⟩;simp[bS,a8];have oT:=A.ok;refine kP (λbB h=>Ln B.size bB/\(∃gy,dT bB 16 (G gy))/\∃QT t',t'.pC=t.pC/\t'.dY=t.dY/\YS 1000000 t'/\SJ c s ch i S ch.eg.toNat B.size n0 cc cf ct es lo hi a b QT t' h/\Ev9 u h/\Th9 B.size a b t.pC t.dY h) (λJ=>?_) (λJ=>?_) ?_
  ·have e8:=hR (by simpa[or_assoc]using(by simpa using J:u.kind=3\/u.kind=23).elim .inl λq=> .inr (.inl q));have n8:el.length=t.kM.length:=A.tx.el.length;have kd:i.a.toNat<t.jy.length:=D;have kg:i.a.toNat<el.length:=D;have⟨al,ii,lX,jj,l9,eB,kk,fW,hn⟩:=A.tx.ga.Bf (te:=HN) rfl (i:=i.a.toNat) (by simpa using kd);simp at hn;have e9:∀x y:Int,mG (G x) 0 [G y]=some (G y):=λx y=>rfl;have k8:=A.n7;have oI:=A.np;have oA:=A.z;have hq:=A.tx.ba al eB;have oj:=A.xb a (.inl rfl) al eB;have n9:=A.m _ A.hk;simp[bS,bi,cp,ap,a8,A.bq,fy e8.1,kk,fW,hn,e9];generalize k5:jv.mk 1 ii (lX+1) jj false (l9.set i.a.toNat (G a6))=dm at*
   have eo:∀w,(fg h al dm).get w=if w=al then some dm else h.get w:=λw=>ee fW dm w;have lc:iE 0 (fg h al dm):=A.ok.put _ _;have pc:(fg h al dm).size=h.size:=ig ..;have ib:=(eo B.size).trans ((ao D).trans ap);have ic:=(eo (B.size+1)).trans ((ao D).trans A.bq);have nu:=(eo 5).trans ((ao D).trans a8);generalize n2:fg h al dm=M at*
   have eP:Gr M b 1 el:=A.tx.gb.mono λw hr=>(eo w).trans (ao λx=>hq.2.2 (by rw[<-x];exact hr));have⟨an,et,fe,eK,ff,dd,kB,eS,fX⟩:=(eP.mono (h':=M.cons (dS 1 0 [G t.dY])) λw hr=>by rw[ez,ao (by have:=(A.tx.bb w hr).2;omega)]).Bf (te:=pf) rfl (i:=i.a.toNat) kg;have⟨nr,kD,lC⟩:=A.tx.el.get (az (show i.a.toNat<t.kM.length by omega));have lE:=Ec (x:= .arr M.size 0 0 1 false) lC.1.na;replace fX:=fX.trans ((az _).symm.trans kD);have kC:b= .arr an et 0 el.length false:=by
    have⟨_,_,_,_,q,u⟩:=(eP.mono (h':=M.cons (dS 1 0 [G t.dY])) λw hr=>by rw[ez,ao (by have:=(A.tx.bb w hr).2;omega)]).box dd;rw[eS]at q;simp at q;rw[u,q.1]
   simp[bi,cp,eR,ib,ic,fy e8.1,kB,eS,fX,lE];have nX:=A.tx.bb an dd;have ov:=A.xb b (.inr (.inl rfl)) an dd;have kn:al≠an:=λq=>hq.2.2 (by rw[q];exact dd);have lm:iE 0 (fg (M.cons (dS 1 0 [G t.dY])) an ⟨1,et,fe+1,eK,false,ff.set i.a.toNat (.arr M.size 0 0 1 false)⟩):=(lc.cons _).put _ _;have pD:(fg (M.cons (dS 1 0 [G t.dY])) an ⟨1,et,fe+1,eK,false,ff.set i.a.toNat (.arr M.size 0 0 1 false)⟩).size=h.size+1:=by rw[ig];show M.size+1=_;omega
   have eH:∀w,(fg (M.cons (dS 1 0 [G t.dY])) an ⟨1,et,fe+1,eK,false,ff.set i.a.toNat (.arr M.size 0 0 1 false)⟩).get w=if w=an then some ⟨1,et,fe+1,eK,false,ff.set i.a.toNat (.arr M.size 0 0 1 false)⟩else if w=M.size then some (dS 1 0 [G t.dY])else if w=al then some dm else h.get w:=λw=>(ee eS _ w).trans (by rw[ez,eo]);generalize fg (M.cons _) an _=fP at*
   have j5:=(eP.mono (h':=M.cons (dS 1 0 [G t.dY])) λw hr=>by rw[ez,ao (by have:=(A.tx.bb w hr).2;omega)]).setAt dd eS i.a.toNat (.arr M.size 0 0 1 false) (h':=fP) ((eH an).trans (aq rfl));have j2:=A.tx.ga.setAt eB fW i.a.toNat (G a6) (h':=fP) ((eH al).trans ((ao kn).trans ((ao D).trans ((aq rfl).trans (by rw[k5])))));have dn:∀w,w<h.size->w≠al->w≠an->fP.get w=h.get w:=λw av aA bn=>(eH w).trans ((ao bn).trans ((ao D).trans (ao aA)));have ie:∀w,eG a=some w->w=al:=λw hr=>by rw[eB]at hr;simpa using hr.symm
   have ih:∀w,eG b=some w->w=an:=λw hr=>by rw[dd]at hr;simpa using hr.symm
   have n1:=gi t (ay cL);have gk:=L.t t (ay cL);have e7:∀w,eG a≠some w->eG b≠some w->w≠al/\w≠an:=λw av aA=>⟨λx=>av (by rw[x];exact eB),λx=>aA (by rw[x];exact dd)⟩;refine⟨by simp[Ln,bn,cF,aE,bH,bN,bS,bi,cp],el.set i.a.toNat (.arr M.size 0 0 1 false),⟨t.pC,t.jy.set i.a.toNat a6,t.kM.set i.a.toNat [t.dY],t.dY⟩,rfl,rfl,⟨by simpa using gk.rl,by simpa using gk.tl,λbA hl=>?_⟩,
    A.gen lm D (λw av aA bn _ _ bH bN=>dn w av (e7 w bH bN).1 (e7 w bH bN).2) ?_ ?_ ⟨by simpa[ij,aU]using j2,j5,A.tx.el.set i.a.toNat ⟨.inr ?_,λw hr=>?_⟩ λu bA q=>⟨q.1.mono λw hr=>?_,λw hr=>?_⟩,λw hr=>?_,λw hr=>?_⟩ λX hw w hr=>?_,⟨a6,a7,(dn 5 D D D).trans a8⟩,ca,(dn _ D D D).trans ap⟩
   ·rcases cE hl with q|rfl
    ·exact gk.tn bA q
    ·exact⟨Y,λx aN=>by simp at aN;subst aN;omega⟩
   ·have⟨l1,eL,R⟩:=A.gc;exact⟨l1,eL.mono λw hr=>by have:=A.bc w hr;exact dn w D D D,R⟩
   ·have⟨l1,eL,R⟩:=A.gf;exact⟨l1,eL.mono λw hr=>by have:=A.bf w hr;exact dn w D D D,R⟩
   ·have:=Gr.new ((eH M.size).trans ((ao D).trans (aq rfl)));simpa using this
   ·simp at hr;subst hr;exact⟨D,D,λq=>by have:=ie _ q;omega,λq=>by have:=ih _ q;omega⟩
   ·have⟨Z,hH,e5,e6⟩:=q.2 w hr;exact dn w hH (e7 w e5 e6).1 (e7 w e5 e6).2
   ·have⟨Z,hH,e5,e6⟩:=q.2 w hr;exact⟨Z,D,e5,e6⟩
   ·have:=A.tx.ba w hr;exact⟨this.1,D,this.2.2⟩
   ·have:=A.tx.bb w hr;exact⟨this.1,D⟩
   ·rcases hw with rfl|rfl|hw
    ·exact A.xb _ (.inl rfl) w hr
    ·exact A.xb _ (.inr (.inl rfl)) w hr
    ·rcases cE hw with q|rfl
     ·exact A.xb X (.inr (.inr q)) w hr
     ·simp at hr;subst hr;omega
  ·simp[Ln,bn,cF,aE,bH,bN,bS,bi,cp,eR];exact⟨el,t,rfl,rfl,L.t _ (ay cL),A,⟨a6,a7,a8⟩,ca,ap⟩
  rintro bB h ⟨⟨bn,cF,aE,bH,bN,bS,bi,cp⟩,⟨dk,eR⟩,QT,t',og,oi,ef,A,⟨a6,a7,a8⟩,ca,ap⟩;have ey:∀y,(fg h B.size y).get B.size=some y:=λy=>(ee ap y _).trans (aq rfl);have hf:∀y,∀q,q<7->(fg h B.size y).get q=h.get q:=λy q J=>(ee ap y _).trans (ao D);have hd:∀y C,(fg (fg h B.size y) B.size C).get B.size=some C:=λy C=>(ee (ey y) C _).trans (aq rfl);have fL:∀y C,∀q,q<7->(fg (fg h B.size y) B.size C).get q=h.get q:=λy C q J=>(ee (ey y) C _).trans ((ao D).trans (hf y q J));simp[bS,bi,eR,a8,ap,pP,eZ,ey,fL];have kC:=gi t (ay cL);have k4:IntKind.i64.wrap (t.dY+1)=t.dY+1:=by rw[<-kh,kr D D]
  rw[k4];have PW:iE 0 (fg (fg h B.size (dS 4 (ca+1) [.agg [G t.pC,a,b,G (t.dY+1)]])) B.size ⟨4,0,ca+1+1,true,false,[.agg [G dk,a,b,G (t.dY+1)]]⟩):=(A.ok.put _ _).put _ _;have E:=A.mono PW (by rw[ig,ig];exact au _) λq _ _ J=>by rw[ee (ey _),ao J,ee ap,ao J]
  have gS:=(fL (dS 4 (ca+1) [.agg [G t.pC,a,b,G (t.dY+1)]]) ⟨4,0,ca+1+1,true,false,[.agg [G dk,a,b,G (t.dY+1)]]⟩ 5 D).trans a8;have gz:=hd (dS 4 (ca+1) [.agg [G t.pC,a,b,G (t.dY+1)]]) ⟨4,0,ca+1+1,true,false,[.agg [G dk,a,b,G (t.dY+1)]]⟩;generalize fg (fg h B.size _) B.size _=hg at*
  clear ey hf hd fL A ap a8;refine kP (λbB h=>Ln B.size bB/\SJ c s ch i S ch.eg.toNat B.size n0 cc cf ct es lo hi a b QT t' h/\Ev9 u h/\aio B.size ct t.dY h) (λJ=>?_) (λJ=>?_) ?_
  ·have k3:=ay aN;simp[bn,aE,bi,E.b0,E.b2,fy e4,aN,gz];refine jm Sp Y ⟨x,⟨dk,t'.jy,t'.kM,t.dY+1⟩,a,b,QT,7,hg.size,1000000⟩ ⟨rfl,E.tx.same rfl rfl,au _,PW,⟨ef.rl,ef.tl,ef.tn⟩,au _,gj x k3⟩ ?_;rintro _ hE ⟨W,hM,rfl,gI,hW,pu,fB,hK⟩;have ps:=E.z;have hN:=(fB B.size D).trans gz;have fE:∀y,∀q,(fg hE B.size y).get q=if q=B.size then some y else hE.get q:=λy q=>ee hN y q;simp[Ln,bn,cF,aE,bH,bN,bS,bi,cp,hN,eZ];have h4:=E.mono (h':=hE) hK D λq J _ _=>fB q J;refine⟨h4.mono (hK.put _ _) (by rw[ig];exact au _) λq _ _ J=>(fE _ q).trans (ao J),⟨a6,a7,(fE _ 5).trans ((ao D).trans ((fB 5 D).trans gS))⟩,W.pC,sl (ij W.jy),sl (W.kM.map tn1),W.dY,W,_,(fE _ _).trans (aq rfl),Y,Y,Y,Y,?_,gI,hW⟩;exact .cons (iC ..) (.cons (qM _ _ _ λx aN=>(Ks _ x aN).1) (.cons (qM _ _ _ λx aN=>by obtain⟨bA,_,rfl⟩:=List.mem_map.1 aN;simp[tn1]) (.cons (iC ..) .nil)))
  ·simp[Ln,bn,cF,aE,bH,bN,bS,bi,cp];refine⟨E,⟨a6,a7,gS⟩,_,_,_,_,⟨dk,t'.jy,t'.kM,t.dY+1⟩,_,gz,E.tx.ga.iN,E.tx.ga.cells,E.tx.gb.iN,E.tx.gb.cells,(E.tx.same (s':=⟨dk,t'.jy,t'.kM,t.dY+1⟩) rfl rfl).fzB _ λX hw q x=>?_,⟨ef.rl,ef.tl,ef.tn⟩,.inl rfl⟩;have o3:=E.xb X hw q x;have o4:=E.m _ E.hk;have o5:=E.n7;have lY:q<hg.size:=by
    rcases hw with rfl|rfl|hw
    ·exact(E.tx.ba q x).2.1
    ·exact(E.tx.bb q x).2
    ·have⟨_,w⟩:=E.tx.el.left hw;exact(w.2 q x).2.1
   exact⟨lY,D,D,λy=>by have:=E.bt q y;have:=this.2.2 _ E.hk;omega⟩
  rintro bB h ⟨⟨bn,cF,aE,bH,bN,bS,bi,cp⟩,A,⟨a6,a7,a8⟩,hI,fi,fo,hJ,W,o2,lv,nB,nE,eP,nF,lS,gI,hW⟩;have⟨F,gZ,hY,ext,hZ,t1,t2,t3,t4⟩:=A.gt.Bf (te:=Nu) rfl (i:=ch.eg.toNat) (by rw[A.l];exact Z);have⟨ha,nv,kK⟩:=A.ek;replace t4:=t4.trans ((az _).symm.trans kK);have m3:=A.bt F t1;have⟨l1,bX,b8⟩:=A.gc;have⟨l2,j6,kX⟩:=A.gf;generalize hF:jv.mk 4 gZ (hY+1) ext false (hZ.set ch.eg.toNat (.agg [G hI,fi,fo,G hJ]))=Q;have hb:∀q,(fg h F Q).get q=if q=F then some Q else h.get q:=λq=>ee t3 Q q;have eN:∀q,q<7->(fg h F Q).get q=h.get q:=λq J=>(hb q).trans (ao D);have h7:=(eN 1 D).trans A.b1;have fs:=(eN 3 D).trans A.b3;have m2:=(eN 4 D).trans A.b4;have h8:=(eN 5 D).trans a8;have eM:∀y q,(fg (fg h F Q) 3 y).get q=if q=3 then some y else if q=F then some Q else h.get q:=λy q=>(ee fs y q).trans (by rw[hb]);have c6:∀y C q,(fg (fg (fg h F Q) 3 y) 4 C).get q=if q=4 then some C else if q=3 then some y else if q=F then some Q else h.get q:=λy C q=>(ee ((eM y 4).trans ((ao D).trans ((ao D).trans A.b4))) C q).trans (by rw[eM]);have oE:(3=F)=False:=dN;have k7:(4=F)=False:=dN;have sv:∀y,fQ (fg h F Q) (fg (fg h F Q) 3 y) 5=true:=λy=>oo fs D y;have jC:∀y C,TI.fz (fg (fg (fg h F Q) 3 y) 4 C) cc=some (sl (ij l1)):=λy C=>(bX.mono (h':=fg (fg (fg h F Q) 3 y) 4 C) λq x=>by
   have:=A.bc q x;rw[c6,ao D,ao D,ao D]).fz Y
  have jZ:∀y C,TI.fz (fg (fg (fg h F Q) 3 y) 4 C) cf=some (sl (ij l2)):=λy C=>(j6.mono (h':=fg (fg (fg h F Q) 3 y) 4 C) λq x=>by
   have:=A.bf q x;rw[c6,ao D,ao D,ao D]).fz Y
  have j0:∀y C,TI.fz (fg (fg (fg h F Q) 3 y) 4 C) ct=some (sl ((s.dW.set ch.eg.toNat W).map fH.t)):=λy C=>by
   refine(A.gt.setAt t1 t3 ch.eg.toNat (.agg [G hI,fi,fo,G hJ]) (h':=fg (fg (fg h F Q) 3 y) 4 C) (by rw[c6,ao D,ao D,aq rfl,hF])).KH (V:=λ_=>True) (d:=4) D (DS (by simp[A.l]) λj x X eD hw=>?_);rw[aR]at hw;obtain⟨lR,de,rfl⟩:=Option.map_eq_some_iff.1 hw;by_cases eV:j=ch.eg.toNat
   ·subst eV;rw[dG (by rw[A.l];exact Z)]at eD;rw[dG Z]at de;simp at eD de;subst eD;subst de;exact .inr (.inr ⟨_,_,rfl,lS.imp λ_ _ k=>k.mono λq J=>⟨trivial,by rw[c6,ao D,ao D,ao (λx=>J.2.2.2 (by rw[x];exact t1))]⟩,rfl⟩)
   ·rw[dH (λx=>eV x.symm)]at eD de;have k6:=A.m j (List.getElem?_eq_some_iff.1 de).1;have k8:=A.n7;refine(A.o j x lR eV eD de).mono λq J=>⟨trivial,?_⟩;rw[c6,ao D,ao D,ao (λx=>(A.bt F t1).2.2 j (List.getElem?_eq_some_iff.1 de).1 (by rw[<-x];exact J))]
  simp[cF,aE,bH,bN,bS,bi,A.b1,A.b2,fy e4,lv,t2,t3,t4,eZ,hF,h7,fs,h8,eM,c6,k7,A.b4,sv,jC,jZ,j0,A.ok.hp];have fS:S=(fO c.fq s.fN ch.eg u.kind u.obj ch.rL).1:=by rw[kp]
  have eW:=xi c.fq s.fN ch.eg u.kind u.obj ch.rL;rw[<-fS]at eW;refine⟨⟨S,l1,l2,s.dW.set ch.eg.toNat W⟩,⟨u.eg,u.kind,u.obj,a6,u.jK,u.mE,u.tQ⟩,true,by simp[jo.t,jo.cs,aU],kF,λ_=>⟨⟨⟨by rw[eW.1];omega,by rw[eW.2.1];omega,by rw[eW.2.2];omega,by rw[b8];omega,by rw[kX];omega,dN⟩,?_,?_,λX hw=>?_⟩,λN hh X hw=>?_⟩⟩
  ·rw[fS];refine Av L.r _ ⟨e4,?_⟩ _ _ _;have:=ae.f.th;omega
  ·rw[fS];exact xj L.a _ _ _ _ _
  ·rcases cE hw with q|rfl
   ·exact L.t X q
   ·exact gI
  ·rcases cE hw with q|rfl
   ·have:=hh X q;omega
   ·have:=hh t (ay cL);omega
end
end
def Sp9(f:H)(a:gh)(b c:List Int):Prop:=∃g d e,nS f 2 7 g [(sl (a.fj.map em.t),none),(G a.tx,none),(sl (a.done.map T.bool),none),(sl (a.dW.map dZ.t),none),(d,some (1,ij b)),(e,some (1,ij c)),(dR,none)]
structure Tt9(c:ky)(S:gh)(C F:List Int)(cc cf:T)(n1 k:Nat)(h:H)(ver:Nat)(ct:T)(es:List T)(ts:List fH)(lo hi:Nat->Nat):Prop where
 ok:iE 0 h
 n:3<=n1/\n1<=h.size
 b0:h.get 0=some (dS 7 0 [c.t])
 b1:h.get 1=some oX
 b2:h.get 2=some (dS 7 ver [.agg [sl (S.fj.map em.t),G S.tx,sl (S.done.map T.bool),sl (S.dW.map dZ.t),cc,cf,ct]])
 gc:Gr h cc 1 (ij C)
 gf:Gr h cf 1 (ij F)
 bx:∀q,eG cc=some q\/eG cf=some q->3<=q/\q<n1
 th:XC n1 h ct es ts lo hi
 l:ts.length=k
 t:∀t∈ts,YS 1000000 t/\t.dY=0
def agZ(b:T):Prop:=∃a:jo,b=a.t/\StI a/\evB 0 a
def G5:o9 prog cx 90 (λk:ky=>[k.t]) (λk=>∀x∈k.dW,x.jO.length<=10000001) (λ_=>agZ):=by
 refine jL [(88,yI.jX),(87,vU)] (jr 4504699140047487 [] func90) (λ_=>1005) (λa b h=>by simp at h;exact ky.inj h) ?_;rintro k dm r ae;simp at ae;obtain⟨_,⟨b,rfl,bs⟩,bW⟩:=yI.use k dm;cases b with
 |false=>
  simp[f90,ae,bW];exact⟨⟨⟨[],0,[],[]⟩,[],[],[]⟩,rfl,⟨Y,λb7 hl=>by simp at hl,λb7 hl=>by simp at hl,λM ht=>by simp at ht⟩,λM ht=>by simp at ht⟩
 |true=>
  have X:=bs rfl;have aX:=kW X.1;obtain⟨eU,eV,eW,eX,e0,b9⟩:=aX;have eO:k.dW.length<=4:=by rw[X.2.1];exact b9
  simp[f90,ae,bW,K3,show k.fq.fj.length<=1000000 by omega,show k.fq.fa.length<=1000000 by omega,show k.fq.dW.length<=1000000 by omega];have bp:(mt k.fq).fj.length=k.fq.fj.length/\(mt k.fq).done.length=k.fq.fa.length/\(mt k.fq).dW.length=k.fq.dW.length:=by simp[mt]
  have dd:F3 4 (mt k.fq):=(xM 4 k.fq);have de:(mt k.fq).BL:=uK k.fq;generalize mt k.fq=o at*
  refine gu k.fq.cells.length D (λs r h=>∃J,Sp9 h o J []/\J.length=s/\Lb 2 h 0 (dS 7 0 [k.t])/\Lb 2 h 1 oX/\dT r 1 (.ptr 0 0 0 0)/\dT r 2 (.ptr 1 0 0 0)/\dT r 3 (.ptr 2 0 0 0)/\dT r 4 (G s)) ?_ ?_ D ?_
  ·rintro s r h R al ⟨J,⟨ver,K,L,u⟩,c7,z,P,v,C,E,I⟩;have B:=u.get;simp at B;have⟨eA,h',W,y⟩:=(u.gr 4 rfl).my (cx:=cx) (f:=T.int .i64) u.ok qv rfl zv rfl Y (λ_=>rfl) k.fq.cells[s].jG dN;have⟨an,eh,bN⟩:=u.app 4 rfl y;have⟨S,ap⟩:=bN _ rfl;simp only[aL,bw,cK,cA]at an S ap;simp[v,C,E,I,R,z.get,B,W,an,eZ,y.1.iN,y.1.cells,al];exact⟨J++[k.fq.cells[s].jG],⟨_,_,_,ap⟩,dN,z.step S,P.step S⟩
  ·rintro r h ⟨J,eo,c7,z,P,v,C,E,I⟩;simp[v,I,z.get];refine gu k.fq.fa.length D (λs r h=>∃F,Sp9 h o J F/\F.length=s/\Lb 2 h 0 (dS 7 0 [k.t])/\Lb 2 h 1 oX/\dT r 1 (.ptr 0 0 0 0)/\dT r 2 (.ptr 1 0 0 0)/\dT r 3 (.ptr 2 0 0 0)/\dT r 5 (G s)) ?_ ?_ D ?_
   ·rintro s r h R al ⟨F,⟨ver,K,L,u⟩,bn,z,P,v,C,E,I⟩;have B:=u.get;simp at B;have⟨eA,h',W,y⟩:=(u.gr 5 rfl).my (cx:=cx) (f:=T.int .i64) u.ok qv rfl zv rfl Y (λ_=>rfl) 0 dN;have⟨an,eh,bN⟩:=u.app 5 rfl y;have⟨S,ap⟩:=bN _ rfl;simp only[aL,bw,cK,cA]at an S ap;simp[v,C,E,I,R,z.get,B,W,an,eZ,y.1.iN,y.1.cells,al];exact⟨F++[0],⟨_,_,_,ap⟩,dN,z.step S,P.step S⟩
   ·rintro r h ⟨F,⟨ver,K,L,u⟩,bn,z,P,v,C,E,I⟩;simp[v,I,z.get];have B:=u.get;simp at B;have aA:=u.gr 4 rfl;have aE:=u.gr 5 rfl;have cp:∀q,eG K=some q\/eG L=some q->3<=q/\q<h.size:=λq O=>by
     have bA:Fp h 2 q:=by
      rcases O with x|x
      ·exact u.DG (f:=(K,some (1,ij J))) Y x
      ·exact u.DG (f:=(L,some (1,ij F))) Y x
     refine⟨?_,u.fp q bA⟩;have ca:q≠0:=λx=>z.nf (by rw[<-x];exact bA);have eB:q≠1:=λx=>P.nf (by rw[<-x];exact bA);have e4:q≠2:=λx=>by
      subst x;rcases O with x|x
      ·have⟨_,_,_,_,Q,_⟩:=aA.box x;rw[B]at Q;simp at Q
      ·have⟨_,_,_,_,Q,_⟩:=aE.box x;rw[B]at Q;simp at Q
     omega
    have eN:=H.fG B;have eL:=aA.iN;have eF:=aA.cells;have eM:=aE.iN;have eH:=aE.cells;refine gu k.dW.length D (λs r h'=>∃ver U a7 av bC bB,Tt9 k o J F K L h.size s h' ver U a7 av bC bB/\dT r 1 (.ptr 0 0 0 0)/\dT r 2 (.ptr 1 0 0 0)/\dT r 3 (.ptr 2 0 0 0)/\dT r 6 (G s)) ?_ ?_ (by have:=X.2.1;have:=b9;omega) ?_
    ·rintro s r h' R al ⟨ver,U,a7,av,bC,bB,i,v,C,E,I⟩;have⟨m,dn,eP⟩:∃m:Nat,k.dW[s].jy=m/\m<=32:=⟨k.dW[s].jy.toNat,by have:=X.2.2 _ (aC R);have:=this.1;omega,by have:=X.2.2 _ (aC R);have:=this.2.1;omega⟩;have cF:m*8<=70368744177664:=D;have cL:m*24<=70368744177664:=D;have c9:=i.n;have ca:∀q,q<3->(q=h'.size)=False:=λq O=>by simp;omega
     have eB:∀q,q<3->(q=h'.size+1)=False:=λq O=>by simp;omega
     have b8:=i.ok;have eS:=b8.low;have okM:iE 0 ((h'.cons ⟨1,0,0,true,false,List.replicate m (G 0)⟩).cons ⟨1,0,0,true,false,List.replicate m dR⟩):=(b8.cons _).cons _;have a8:∀q,((h'.cons ⟨1,0,0,true,false,List.replicate m (G 0)⟩).cons ⟨1,0,0,true,false,List.replicate m dR⟩).get q=if q=h'.size+1 then some ⟨1,0,0,true,false,List.replicate m dR⟩else if q=h'.size then some ⟨1,0,0,true,false,List.replicate m (G 0)⟩else h'.get q:=λq=>by rw[ez,ez];rfl
     have cb:((h'.cons ⟨1,0,0,true,false,List.replicate m (G 0)⟩).cons ⟨1,0,0,true,false,List.replicate m dR⟩).size=h'.size+1+1:=rfl;have bH:Nb h' ((h'.cons ⟨1,0,0,true,false,List.replicate m (G 0)⟩).cons ⟨1,0,0,true,false,List.replicate m dR⟩):=⟨⟨okM.hp,okM.low,D⟩,λq O=>(a8 q).trans ((ao D).trans (ao D))⟩;have c6:=i.th.g.mono (h':=(h'.cons ⟨1,0,0,true,false,List.replicate m (G 0)⟩).cons ⟨1,0,0,true,false,List.replicate m dR⟩) λq x=>bH.get q (by have⟨_,_,_,_,Q,_⟩:=i.th.g.box x;exact H.fG Q);have⟨Z,N,W,y⟩:=c6.FZ (cx:=cx) okM Ol rfl Oh rfl Y (x:= .agg [G 0,.arr h'.size 0 0 m false,.arr (h'.size+1) 0 0 m false,G 0]) rfl (by have:=i.th.l;have:=i.l;have:=X.2.1;simp;omega);simp only[cb]at W;have eC:=y.2.2.2.sz;rw[cb]at eC;have a6:∀q,eG U=some q->h.size<=q:=λq x=>(i.th.c q x).1;have gN:∀q,q<h'.size->eG U≠some q->N.get q=h'.get q:=λq O ds=>(y.2.1 q D ds).trans (bH.get q O);have bi:∀q,q<3->N.get q=h'.get q:=λq O=>gN q D λx=>by have:=a6 q x;omega
     have p2:=(bi 2 D).trans i.b2;simp[v,C,E,I,R,i.b0,i.b2,dn,cF,cL,ca,W,p2,y.1.iN,y.1.cells,eZ,al];have ef:iE 0 N:=⟨y.2.2.2.hp,y.2.2.2.low,aw _⟩;have A:∀q,(fg N 2 (dS 7 (ver+1) [.agg [sl (o.fj.map em.t),G o.tx,sl (o.done.map T.bool),sl (o.dW.map dZ.t),K,L,Z]])).get q=if q=2 then some (dS 7 (ver+1) [.agg [sl (o.fj.map em.t),G o.tx,sl (o.done.map T.bool),sl (o.dW.map dZ.t),K,L,Z]])else N.get q:=λq=>ee p2 _ q;have eb:=ef.put 2 (dS 7 (ver+1) [.agg [sl (o.fj.map em.t),G o.tx,sl (o.done.map T.bool),sl (o.dW.map dZ.t),K,L,Z]]);have e5:(fg N 2 (dS 7 (ver+1) [.agg [sl (o.fj.map em.t),G o.tx,sl (o.done.map T.bool),sl (o.dW.map dZ.t),K,L,Z]])).size=N.size:=ig ..;generalize fg N 2 _=bn at*
     have eR:List.replicate m (T.int .i64 0)=ij (List.replicate m 0):=by simp[ij]
     have et:C3 h'.size (h'.size+1+1) ((h'.cons ⟨1,0,0,true,false,List.replicate m (G 0)⟩).cons ⟨1,0,0,true,false,List.replicate m dR⟩) (.arr h'.size 0 0 m false) (.arr (h'.size+1) 0 0 m false) (List.replicate m dR) ⟨0,List.replicate m 0,List.replicate m [],0⟩:=by
      refine⟨.inr ⟨h'.size,0,0,true,_,Y,(a8 _).trans ((ao D).trans (aq rfl)),Y⟩,.inr ⟨h'.size+1,0,0,true,_,Y,(a8 _).trans (aq rfl),Y⟩,DS Y λj a b ae bs=>?_,λq x=>?_,λq x=>?_⟩
      ·have di:=bY (ay ae);have dk:=bY (ay bs);subst di;subst dk;exact⟨.inr (Gr.nil _ _),λq x=>by simp at x⟩
      ·simp at x;subst x;exact⟨au _,D,Y⟩
      ·simp at x;subst x;exact⟨D,D⟩
     have er:=(i.th.app i.n.2 bH et y).mono (h':=bn) D λq v _=>(A q).trans (ao D);refine⟨ver+1,Z,_,_,_,_,⟨eb,⟨i.n.1,D⟩,(A 0).trans ((ao D).trans ((bi 0 D).trans i.b0)),(A 1).trans ((ao D).trans ((bi 1 D).trans i.b1)),(A 2).trans (aq rfl),i.gc.mono λq x=>?_,i.gf.mono λq x=>?_,i.bx,er,by simp[i.l],λM ht=>?_⟩⟩
     ·have:=i.bx q (.inl x);exact(A q).trans ((ao D).trans (gN q D λp=>by have:=a6 q p;omega))
     ·have:=i.bx q (.inr x);exact(A q).trans ((ao D).trans (gN q D λp=>by have:=a6 q p;omega))
     ·rcases List.mem_append.1 ht with q|q
      ·exact i.t M q
      ·simp at q;subst q;exact⟨⟨dN,dN,λb7 hl=>by have:=bY hl;subst this;exact Tn.nil _⟩,rfl⟩
    ·rintro r h' ⟨ver,U,a7,av,bC,bB,i,v,C,E,I⟩;have bu:=i.b1;unfold oX at bu;have A:∀p q,(fg h' 1 p).get q=if q=1 then some p else h'.get q:=λp q=>ee bu p q;have c9:=i.n;have cX:∀p,TI.fz (fg h' 1 p) K=some (sl (ij J)):=λp=>(i.gc.mono (h':=fg h' 1 p) λq x=>by have:=i.bx q (.inl x);rw[A,ao D]).fz Y;have c1:∀p,TI.fz (fg h' 1 p) L=some (sl (ij F)):=λp=>(i.gf.mono (h':=fg h' 1 p) λq x=>by have:=i.bx q (.inr x);rw[A,ao D]).fz Y;have c4:∀p,TI.fz (fg h' 1 p) U=some (sl (av.map fH.t)):=λp=>by
      have bT:=i.th.mono (h':=fg h' 1 p) (by rw[ig];exact au _) λq v _=>by rw[A,ao D]
      refine bT.g.KH (V:=λ_=>True) (d:=4) D (DS (by simp[bT.l]) λj x w ea aX=>?_);rw[aR]at aX;obtain⟨ey,dv,rfl⟩:=Option.map_eq_some_iff.1 aX;obtain⟨eD,eE,eK,rfl,eu⟩:=bT.e j x ey ea dv;exact .inr (.inr ⟨_,_,rfl,eu.fz _ λ_ _ _=>trivial,rfl⟩)
     simp[v,C,E,I,i.b0,i.b2,bu,eZ,A,cX,c1,c4,i.ok.hp];have hl:=i.l;refine⟨⟨o,J,F,av⟩,rfl,⟨⟨by rw[bp.1];omega,by rw[bp.2.1];omega,by rw[bp.2.2];omega,dO,dO,dO⟩,dd,de,λM ht=>(i.t M ht).1⟩,λM ht=>by have:=(i.t M ht).2;omega⟩
    ·refine⟨ver,dR,[],[],λ_=>0,λ_=>0,⟨u.ok,⟨D,au _⟩,z.get,P.get,B,aA,aE,cp,⟨Gr.nil _ _,rfl,λs eI M x=>by simp at x,λs x=>by simp at x,λs j x p=>by simp at p,λk x=>by simp at x⟩,rfl,λM ht=>by simp at ht⟩,by simp[v,C,E]⟩
   ·exact⟨[],eo,rfl,z,P,by simp[v,C,E]⟩
  ·generalize aN:H.cons _ _=bX;have ec:iE 0 bX:=by rw[<-aN];exact⟨Y,Y,Y⟩
   have bS:=nS.start (h:=bX) (w:=2) (szw:=7) (ver:=1) (F:=[(sl (o.fj.map em.t),none),(G o.tx,none),(sl (o.done.map T.bool),none),(sl (o.dW.map dZ.t),none),(dR,some (1,[])),(dR,some (1,[])),(dR,none)]) ec (by rw[<-aN];simp) (λf b6=>by
    simp only[cu,cO,or_false]at b6;rcases b6 with rfl|rfl|rfl|rfl|rfl|rfl|rfl
    iterate 4 exact .inl ⟨rfl,Y⟩
    iterate 2 exact .inr ⟨rfl,1,rfl,dP⟩
    exact .inl ⟨rfl,rfl⟩)
   exact⟨[],⟨1,_,_,bS.1⟩,rfl,⟨by rw[<-aN];simp,λx=>absurd (bS.2 0 x) D⟩,⟨by rw[<-aN];simp[oX],λx=>absurd (bS.2 1 x) D⟩,Y⟩
section
attribute [-simp] size_cons
structure IFr where
 (c:ky) (s:jo) (L:List gJ)
def Yk(a:IFr)(b:List T)(d:H):Prop:=b=[a.c.t,a.s.t,dR,sl (a.L.map gJ.t)]/\iE 0 d/\(∀e∈a.c.dW,e.jO.length<=10000001)/\StI a.s/\evB 0 a.s/\a.L.length<=80
def RX(i:IFr)(h:List T)(c:H)(f:T)(d:H):Prop:=∃(a:List fk) (g:jo) (b:T),f= .tuple [b,g.t]/\Gr d b 7 (a.map fk.t)/\(∀e,eG b=some e->c.size<=e)/\Nb c d/\ML a/\a.length<=80
structure Fr9(c:ky)(h0:H)(n:Nat)(h:H)(s:jo)(l:List fk)(v:T)(ver:Nat):Prop where
 nb:Nb h0 h
 z:h0.size+3<=h.size
 b0:h.get h0.size=some (dS 7 0 [c.t])
 b1:h.get (h0.size+1)=some (dS 7 ver [s.t])
 b2:h.get (h0.size+1+1)=some oX
 g:Gr h v 7 (l.map fk.t)
 bx:∀q,eG v=some q->h0.size+3<=q
 st:StI s
 ev:evB n s
 es:ML l
 l:l.length<=n
def Fr9.ok{c:ky}{d a:H}{g:Nat}{h:jo}{f:List fk}{j:T}{k:Nat}(b:Fr9 c d g a h f j k):iE 0 a:=⟨b.nb.ok.hp,b.nb.ok.low,aw _⟩
def SI:(jY IFr Yk RX).Ok prog cx 89:=by
 refine jV (tb:=⟨pt [(128,JG.jX)],ht []⟩) jg iT (jr 68723687231 [(4,[(6,11),(6,12)])] func89) (λ_ _=>1005) (λi U d bT=>by obtain⟨rfl,_⟩:=bT;simp[f89]) ?_;rintro⟨r,j,E⟩ _ c ⟨rfl,ap,Z,al,X,bB⟩ o K;simp only at Z al X bB;simp at K;obtain⟨bs,bu,s,u⟩:=K;have R:=ap.hr;simp[f89,bs,bu];have cX:=ap.low;generalize p:((H.cons _ _).cons _).cons _=v;have c1:iE 0 v:=by rw[<-p];exact((R.cons _).cons _).cons _
 have di:v.size=c.size+1+1+1:=by rw[<-p];rfl
 have bX:Nb c v:=by rw[<-p];exact⟨((((Nb.refl R).cons _).cons _).cons _).ok,λr bC=>(((((Nb.refl R).cons _).cons _).cons _).get r bC).trans (iI c r)⟩
 have ca:v.get c.size=some (dS 7 0 [r.t]):=by rw[<-p];simp
 have cb:v.get (c.size+1)=some (dS 7 0 [j.t]):=by rw[<-p];simp
 have cp:v.get (c.size+1+1)=some oX:=by rw[<-p];simp[oX]
 clear p;refine uH E.length (λm o d=>∃j A B n,Fr9 r c m d j A B n/\dT o 4 (.ptr c.size 0 0 0)/\dT o 5 (.ptr (c.size+1) 0 0 0)/\dT o 9 (.ptr (c.size+1+1) 0 0 0)/\dT o 2 B/\dT o 3 (sl (E.map gJ.t))/\dT o 10 (G m)) ?_ D (aw _) ?_
 ·rintro m o d cL ⟨j,A,B,n,b,M,x,N,s,u,I⟩;have an:=b.g.len (cx:=cx) d Y8 _ rfl;rw[aG]at an;simp[s,u,I,an];refine fw (λe=>?_) (λe=>?_)
  ·have bS:m<E.length:=by simp at e;exact e.1
   have bW:=b.z;have bi:evB 999000 j:=λS ht=>by have:=b.ev S ht;omega
   obtain⟨_,⟨q,F,b7,rfl,bN,ae⟩,V⟩:=JG.use (r,j,E[m]) ⟨Z,b.st,bi⟩;simp only at V ae;have c4:(c.size=d.size)=False:=by simp<;>omega
   have c7:(c.size+1=d.size)=False:=by simp<;>omega
   have c6:(c.size=d.size+1)=False:=by simp<;>omega
   have c9:(c.size+1=d.size+1)=False:=by simp<;>omega
   simp[u,M,x,I,b.b0,b.b1,bS,V,b.ok.low];generalize J:fg _ (d.size+1) _=h;have Q:iE 0 ((d.cons (dS 7 1 [q.t])).cons (dS 7 0 [.agg [G 0,G 0,G 0,G 0,G 0,dR,dR]])):=(b.ok.cons _).cons _;have P:iE 0 h:=by rw[<-J];exact Q.put _ _
   have cF:h.size=d.size+1+1:=by rw[<-J,ig];rfl
   have L:∀a,h.get a=if a=d.size+1 then some (dS 7 1 [F.t])else if a=d.size then some (dS 7 1 [q.t])else d.get a:=λa=>by
    rw[<-J,nM Q.hp (by show _<d.size+1+1;omega)];split
    ·rfl
    ·rw[ez,ao (by assumption),ez]
   clear J Q;have Go:∀a,a<d.size->h.get a=d.get a:=λa e=>(L a).trans ((ao D).trans (ao D));have a0:=(Go c.size D).trans b.b0;have a1:=(Go (c.size+1) D).trans b.b1;have a2:=(Go (c.size+1+1) D).trans b.b2;have aA:=(L d.size).trans ((ao D).trans (aq rfl));have av:=(L (d.size+1)).trans (aq rfl);have gA:=b.g.mono (h':=h) λa f=>by have⟨_,_,_,_,bn,_⟩:=b.g.box f;exact Go a (H.fG bn)
   cases b7 with
   |false=>
    simp[s,u,M,x,N,I,pP];rw[<-kh,kr D D];exact⟨m+1,D,D,j,A,B,⟨n,⟨⟨⟨P.hp,P.low,D⟩,λa e=>(Go a D).trans (b.nb.get a e)⟩,D,a0,a1,a2,gA,b.bx,b.st,λS ht=>by have:=b.ev S ht;omega,b.es,by have:=b.l;omega⟩⟩,rfl,Y⟩
   |true=>
    have⟨b8,a8⟩:=ae rfl;have b6:iE 0 (fg h (c.size+1) (dS 7 (n+1) [q.t])):=P.put _ _;have k:∀a,(fg h (c.size+1) (dS 7 (n+1) [q.t])).get a=if a=c.size+1 then some (dS 7 (n+1) [q.t])else h.get a:=λa=>ee a1 _ a;have dd:(fg h (c.size+1) (dS 7 (n+1) [q.t])).size=d.size+1+1:=by rw[ig];exact cF
    simp[s,x,aA,a1];generalize fg h (c.size+1) _=W at*
    have aE:=(k c.size).trans ((ao D).trans a0);have aN:=(k (c.size+1)).trans (aq rfl);have aX:=(k (c.size+1+1)).trans ((ao D).trans a2);have a6:=(k (d.size+1)).trans ((ao D).trans av);have bp:=gA.mono (h':=W) λa f=>(k a).trans (ao (by have:=b.bx a f;omega));have⟨b9,bA,a7,w⟩:=bp.my (cx:=cx) b6 TV rfl TT rfl Y (λ_=>rfl) F (by have:=b.l;simp;omega);simp[u,M,x,N,I,a6,a7,pP];rw[<-kh,kr D D];have de:=w.2.2.2.sz;have C:∀a,a<c.size+3->bA.get a=W.get a:=λa e=>w.2.1 a D λf=>by have:=b.bx a f;omega
    exact⟨m+1,D,D,q,A++[F],b9,⟨n+1,⟨⟨⟨w.2.2.2.hp,w.2.2.2.low,D⟩,λa e=>(C a D).trans ((k a).trans ((ao D).trans ((Go a D).trans (b.nb.get a e))))⟩,D,(C c.size D).trans aE,(C (c.size+1) D).trans aN,(C (c.size+1+1) D).trans aX,w.1,λa f=>by
     rcases w.2.2.1 a f with y|y
     ·exact b.bx a y
     ·omega,b8,a8 m b.ev,λU K=>by
     rcases List.mem_append.1 K with y|y
     ·exact b.es U y
     ·simp at y;subst y;exact bN,by have:=b.l;simp;omega⟩⟩,rfl,Y⟩
  ·have O:=b.b2;unfold oX at O;have bW:=b.z;have k:∀y a,(fg d (c.size+1+1) y).get a=if a=c.size+1+1 then some y else d.get a:=λy a=>ee O y a;simp[s,x,N,b.b1,O,eZ,k];have T:∀a,a≠c.size+1+1->(mK c (fg d (c.size+1+1) (dS 7 1 [j.t]))).get a=d.get a:=λa e=>by rw[il,k,ao e]
   exact⟨A,j,B,rfl,b.g.mono λa f=>T a (by have:=b.bx a f;omega),λa f=>by have:=b.bx a f;omega,⟨⟨((b.ok.put _ _).out c).hp,((b.ok.put _ _).out c).low,by rw[wa,ig];exact b.nb.ok.sz⟩,λa e=>(T a D).trans (b.nb.get a e)⟩,b.es,by have:=b.l;omega⟩
 ·exact⟨j,[],_,_,⟨bX,D,ca,cb,cp,Gr.nil _ _,λa f=>by simp at f,al,X,λF bH=>by simp at bH,au _⟩,by simp[s,u]⟩
