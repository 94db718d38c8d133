/- Texts W07d to W07e. -/
import Derived.Test.YtmaeadedikngoaaGreatDoorA27
import Derived.Test.YtmaeadedikngoaaGreatDoorA30
set_option linter.unusedVariables false
set_option linter.unusedSimpArgs false
set_option linter.defProp false
set_option maxRecDepth 100000
set_option maxHeartbeats 8000000
namespace Go.Proofs.YtmaeadedikngoaaGreatDoor
noncomputable section
open Go Go.TI
attribute [-simp] List.map_take List.map_drop List.map_append fj eG dY Bool.not_or Bool.not_and
attribute [simp] fh eJ
attribute [-simp] size_cons
structure RR where
 (i:fF) (s:dZ) (a b:T) (es:List T) (lo hi N:Nat)
structure TOk(N r:Nat)(s:dZ):Prop where
 rl:s.iA.length=r
 tl:s.jN.length=r
 tn:∀l∈s.jN,Tn N l
def MW(c:RR)(e:List T)(d:H):Prop:=e=[c.i.t,AE c.s c.a c.b]/\Al c.lo c.hi d c.a c.b c.es c.s/\c.hi<=d.size/\gu 0 d/\1<=c.i.op/\c.i.op<=5/\TOk c.N c.s.iA.length c.s/\c.s.iA.length<=1000/\c.N<=1000000
def JG(a:RR)(k:List T)(e:H)(j:T)(c:H):Prop:=∃d f g i h,j= .tuple [AE d f g,.bool h]/\Al a.lo c.size c f g i d/\(∀b,b<e.size->(b<a.lo\/a.hi<=b)->c.get b=e.get b)/\gu e.size c/\(h=true->TOk a.N a.s.iA.length d/\d.dH=a.s.dH)
def Al.mono{g f lo' hi':Nat}{k h':H}{h i:T}{j:List T}{l:dZ}(c:Al g f k h i j l)(hl:lo'<=g)(n:f<=hi')(e:∀a,g<=a->a<f->h'.get a=k.get a):Al lo' hi' h' h i j l:=
 ⟨c.ga.mono λa b=>e a (c.ba a b).1 (c.ba a b).2.1,c.gb.mono λa b=>e a (c.bb a b).1 (c.bb a b).2,c.el.imp λm o d=>⟨d.1.mono λa b=>e a (d.2 a b).1 (d.2 a b).2.1,λa b=>⟨by have:=(d.2 a b).1;omega,by have:=(d.2 a b).2.1;omega,(d.2 a b).2.2⟩⟩,λa b=>⟨by have:=(c.ba a b).1;omega,by have:=(c.ba a b).2.1;omega,(c.ba a b).2.2⟩,λa b=>⟨by have:=(c.bb a b).1;omega,by have:=(c.bb a b).2;omega⟩⟩
def Al.same{h g:Nat}{f:H}{c d:T}{e:List T}{b s':dZ}(a:Al h g f c d e b)(i:s'.iA=b.iA)(j:s'.jN=b.jN):Al h g f c d e s':=⟨by rw[i];exact a.ga,a.gb,by rw[j];exact a.el,a.ba,a.bb⟩
def Al.zero(e d:Nat)(c:H):Al e d c dx dx [] ⟨0,[],[],0⟩:=⟨Gr.nil _ _,Gr.nil _ _,.nil,λb a=>by simp at a,λb a=>by simp at a⟩
def Nr:(jp RR MW JG).Ok Tryz.prog cx 208:=by
 refine jk (tb:=⟨pt [(97,my),(234,wY.jb),(233,Gf.jb),(235,DR.jb)],ht [(155,jp IUn MV Id)]⟩) ei eg (iL 9904163146420522906957187071 [(20,[(2,4),(2,6),(2,7),(2,8)]),(10,[(2,4),(2,6),(2,7),(2,8),(2,10),(2,12),(2,13),(2,14)]),(22,[(1,11),(3,11),(5,11),(7,11),(5,13),(7,13)])] Tryz.func208) (λ_ _=>100) (λi Y g e9=>by obtain⟨rfl,_⟩:=e9;simp[Tryz.f208]) ?_;rintro⟨i,j,Y,Z,Q,dv,e7,N⟩ _ g ⟨rfl,h,e6,cL,fb,fe,w,hr,e3⟩ l dd;simp only at h e6 fb fe w hr e3;simp[AE]at dd;obtain⟨e1,e2⟩:=dd;simp[Tryz.f208,e1,e2,uj];generalize R:(((TI.hr g).cons _).cons _).cons _=q;have F:gu 0 q:=by rw[<-R];exact((cL.hr.cons _).cons _).cons _
 have gj:q.size=g.size+1+1+1:=by rw[<-R];rfl
 have av:Nb g q:=by rw[<-R];exact⟨((((Nb.refl cL.hr).cons _).cons _).cons _).ok,λd f=>(((((Nb.refl cL.hr).cons _).cons _).cons _).get d f).trans (fX g d)⟩
 have O:q.get g.size=some (dy 6 0 [i.t]):=by rw[<-R];simp
 have P:q.get (g.size+1)=some (dy 4 0 [.agg [dw j.pC,Y,Z,dw j.dH]]):=by rw[<-R];simp
 have aA:q.get (g.size+1+1)=some (dy 4 0 [.agg [dw 0,dx,dx,dw 0]]):=by rw[<-R];simp
 clear R;have ds:=h.ga.len (cx:=cx) q Qf _ rfl;rw[aH]at ds;have e0:∀y,(dQ q (g.size+1+1) y).get (g.size+1+1)=some y:=λy=>(dE aA y _).trans (aq rfl);have gz:=Bf i;refine fc (iC i).length dj (λU l h'=>q=h'/\dz l 2 (.ptr g.size 0 0 0)/\dz l 3 (.ptr (g.size+1) 0 0 0)/\dz l 4 (.ptr (g.size+1+1) 0 0 0)/\dz l 6 (sl (ge (iC i)))/\dz l 7 (dw U)/\∀E∈(iC i).take U,0<=E/\E<j.iA.length) ?_ ?_ dj dp
 ·rintro U l _ ap e4 ⟨rfl,r,s,A,bn,bs,D⟩;have fi:(iC i).take (U+1)=(iC i).take U++[(iC i)[U]]:=aU ap;simp[s,bn,bs,ap,P,ds];generalize(iC i)[U]=E at*
  refine dU (λbi=> ?_) (λbi=> ?_)
  ·simp[A,aA,e0,dP];refine⟨⟨0,[],[],0⟩,_,_,_,false,rfl,Al.zero _ _ _,λd f _=> ?_,⟨(F.put _ _).out g|>.hp,(F.put _ _).out g|>.low,dq⟩,dp⟩;rw[fK,dE aA,ao dj];exact av.get d f
  ·simp at bi;simp[r,s,A,bn,bs,e4,fi];intro x cb;rcases cb with cb|rfl
   ·exact D x cb
   ·omega
 ·rintro l _ ⟨rfl,r,s,A,bn,bs,D⟩;rw[aL]at D;simp[r,bn,bs,O];have bN:oO q 1 Y (ge j.iA):= .inr (h.ga.mono λd f=>av.get d (by have:=(h.ba d f).2.1;omega));have bS:oO q 1 Z Q:= .inr (h.gb.mono λd f=>av.get d (by have:=(h.bb d f).2;omega));have bH:∀E:Int,0<=E->E<j.iA.length->∃u e,j.jN[E.toNat]? =some u/\Q[E.toNat]? =some e/\oO q 1 e (ge u)/\Tn N u:=λE r0 r1=>by
   have ap:E.toNat<j.jN.length:=by have:=w.tl;omega
   obtain⟨e,bB,k⟩:=h.el.get (az ap);exact⟨_,e,az ap,bB,k.1.mono λd f=>av.get d (by have:=(k.2 d f).2.1;omega),w.tn _ (aF ap)⟩
  refine lh (λl C=>∃(v:Int) (eA:T) (X:T) (W:List Int),D1 eA/\Nb q C/\oO C 1 X (ge W)/\Tn N W/\iP i.a j.iA.length=true/\dz l 2 (.ptr g.size 0 0 0)/\dz l 3 (.ptr (g.size+1) 0 0 0)/\dz l 4 (.ptr (g.size+1+1) 0 0 0)/\dz l 8 (dw v)/\dz l 9 eA/\dz l 10 X) (λbi=> ?_) (λbi=> ?_) ?_
  ·simp[r,s,A,O,P,aA,dP,md,F.hp,gj];refine⟨{j with pC:=i.a},Y,Z,Q,true,rfl,(h.mono (au _) dq λd _ f=> ?_).same rfl rfl,λd f _=> ?_,⟨(((F.put _ _).put _ _).out g).hp,(((F.put _ _).put _ _).out g).low,dq⟩,λ_=>⟨⟨rfl,w.tl,w.tn⟩,rfl⟩⟩
   all_goals (rw[fK,md (by simpa using F.hp) dq,ao dj,dE P,ao dj];exact av.get d dj)
  ·have gw:¬i.op=5:=by simpa using bi
   have f:i.op=1\/i.op=2\/i.op=3\/i.op=4:=dj;rcases f with e|e|e|e
   ·have I:=D i.a (by unfold iC;simp[e]);simp[r,s,A,O,e];exact⟨_,_,⟨_,rfl⟩,Nb.refl F,_,[],.inr (Gr.nil _ _),Tn.nil N,ff.2 ⟨I.1,dj⟩,rfl,rfl,rfl⟩
   ·have I:=D i.a (by unfold iC;simp[e]);have B:=D i.b (by unfold iC;simp[e]);obtain⟨p1,aE,aN⟩:=bN.idx (te:=FJ) rfl rfl (i:=i.b.toNat) (x:= dw j.iA[i.b.toNat]) (by simp[show i.b.toNat<j.iA.length by omega]) rfl;obtain⟨u,X,hl,bk,M,K⟩:=bH i.b B.1 B.2;obtain⟨p2,aX,a6⟩:=bS.idx (te:=pX) rfl rfl bk M.gD.2;simp[r,s,A,O,P,e,ed B.1,aE,aN,aX,a6];exact⟨_,_,⟨_,rfl⟩,Nb.refl F,_,u,M,K,ff.2 ⟨I.1,dj⟩,rfl,rfl,rfl⟩
   ·have I:=D i.a (by unfold iC;simp[e]);have B:=D i.b (by unfold iC;simp[e]);obtain⟨p1,aE,aN⟩:=bN.idx (te:=FJ) rfl rfl (i:=i.b.toNat) (x:= dw j.iA[i.b.toNat]) (by simp[show i.b.toNat<j.iA.length by omega]) rfl;obtain⟨u,X,hl,bk,M,K⟩:=bH i.b B.1 B.2;obtain⟨p2,aX,a6⟩:=bS.idx (te:=pX) rfl rfl bk M.gD.2;obtain⟨_,⟨o,rfl⟩,b8⟩:=wY.use i.n trivial;obtain⟨_,⟨gg,fs,rfl⟩,a7⟩:=Gf.use (o,j.iA[i.b.toNat]) trivial;simp only at a7;simp[r,s,A,O,P,e,ed B.1,aE,aN,aX,a6,b8,a7];exact⟨_,_,⟨_,rfl⟩,Nb.refl F,_,u,M,K,ff.2 ⟨I.1,dj⟩,rfl,rfl,rfl⟩
   ·have I:=D i.a (by unfold iC;simp[e]);have B:=D i.b (by unfold iC;simp[e]);have ca:=D i.c (by unfold iC;simp[e]);obtain⟨p1,aE,aN⟩:=bN.idx (te:=FJ) rfl rfl (i:=i.b.toNat) (x:= dw j.iA[i.b.toNat]) (by simp[show i.b.toNat<j.iA.length by omega]) rfl;obtain⟨p3,eF,eH⟩:=bN.idx (te:=FJ) rfl rfl (i:=i.c.toNat) (x:= dw j.iA[i.c.toNat]) (by simp[show i.c.toNat<j.iA.length by omega]) rfl;obtain⟨u,X,hl,bk,M,K⟩:=bH i.b B.1 B.2;obtain⟨l2,gi,gy,fl,ec,ey⟩:=bH i.c ca.1 ca.2;obtain⟨p2,aX,a6⟩:=bS.idx (te:=pX) rfl rfl bk M.gD.2;obtain⟨p4,eI,eL⟩:=bS.idx (te:=pX) rfl rfl fl ec.gD.2;obtain⟨_,⟨o,rfl⟩,b8⟩:=wY.use i.n trivial;obtain⟨_,⟨gg,fs,rfl⟩,a7⟩:=DR.use (o,j.iA[i.b.toNat],j.iA[i.c.toNat]) trivial;simp only at a7;simp[r,s,O,P,e,ed B.1,ed ca.1,aE,aN,aX,a6,eF,eH,eI,eL,b8,a7];refine gJ Ge dp ⟨u,l2,X,gi⟩ ⟨rfl,M,ec,by have:=K.1;have:=ey.1;simp only;omega,F⟩ ?_;rintro E C ⟨fY,J,_⟩;simp[r,s,A];exact⟨_,_,⟨_,rfl⟩,J,_,_,fY,K.union ey,ff.2 ⟨I.1,dj⟩,rfl,rfl,rfl⟩
  ·rintro l C ⟨v,_,X,W,⟨fv,rfl⟩,J,fS,K,I,r,s,A,c7,c9,c6⟩;have bT:=(J.get _ dj).trans O;have b6:=(J.get _ dj).trans P;have c4:=(J.get _ dj).trans aA;have hb:=J.ok.sz;obtain⟨b9,p,b7,⟨gM,gn,gA⟩,gZ,bl,L⟩:=lq (cx:=cx) (⟨J.ok.hp,J.ok.low,aw _⟩:gu 0 C) kG rfl nM kG rfl rfl dp fS.jc (by simp[T.cells]) (by have:=K.1;simp;omega);have S:=ff.1 I;have V:Nb g p:=⟨⟨L.hp,L.low,dj⟩,λd f=>(bl d dj).trans ((J.get d dj).trans (av.get d f))⟩;have gk:=(bl _ dj).trans bT;have eD:=(bl _ dj).trans b6;have eE:=(bl _ dj).trans c4;obtain⟨m,gm,gP,gp,gS,a8,de,al,di⟩:=(h.ga.mono (h':=p) λd f=>V.get d (by have:=(h.ba d f).2.1;omega)).ID (te:=FJ) rfl (i:=i.a.toNat) (by simpa using S.2);obtain⟨z,eM,gQ,gv,gV,an,e5,bz,dk⟩:=(h.gb.mono (h':=p) λd f=>V.get d (by have:=(h.bb d f).2;omega)).ID (te:=pX) rfl (i:=i.a.toNat) (by rw[h.el.length,w.tl];exact S.2);simp at b7;have bC:=(h.ba m a8).2.2;have dn:¬m=z:=λk=>bC (by rw[k];exact an);have ea:=H.ej al;have fo:=H.ej bz;have eb:=(h.ba m a8);have gI:=(h.bb z an);have gB:=eb.1;have gE:=eb.2.1;obtain⟨e,bB,fL⟩:=h.el.get (az (show i.a.toNat<j.jN.length by rw[w.tl];exact S.2));have et:=H3 (x:= .arr C.size b9 0 W.length false) fL.1.na;have fm:Q[i.a.toNat]'(by rw[h.el.length,w.tl];exact S.2)=e:=by rw[az (by rw[h.el.length,w.tl];exact S.2)]at bB;simpa using bB
   rw[fm]at dk;have eu:∀x:Int,mt (dw x) 0 [dw v]=some (dw v):=λx=>rfl;have c1:∀d,d<C.size->ew (C.cons (dy 1 0 [])) p d=true:=λd f=>eZ ((bl d f).trans (by rw[dM,ao dj]));have ef:=c1 g.size dj;have eh:=c1 (g.size+1) dj;have eo:=mv al (show g.size≠m by omega);have er:=mv al (show g.size+1≠m by omega);have gd:=mv al (show z≠m by omega);have eN:(g.size+1=m)=False:=dq;have eO:(g.size+1=z)=False:=dq;have eP:(g.size+1+1=m)=False:=dq;have eR:(g.size+1+1=z)=False:=dq;have eS:(z=m)=False:=dq;have l1:g.size+1<p.size:=dj;have l2:g.size+1+1<p.size:=dj;have dm:Z= .arr z eM 0 Q.length false:=by
    obtain⟨_,_,_,_,k,e⟩:=(h.gb.mono (h':=p) λd f=>V.get d (by have:=(h.bb d f).2;omega)).box an;rw[bz]at k;simp at k;rw[e,k.1]
   have e8:i.a.toNat<Q.length:=by rw[h.el.length,w.tl];exact S.2
   simp at di;simp[r,s,A,c7,c9,c6,bT,b6,b7,ed S.1,de,dm,e8,al,bz,eD,eE,di,dk,eu,et,ef,eh,eo,er,md,L.hp,ea,fo,eN,eO,eP,eR,eS,l1,l2,dP,nD];clear b7 c1 ef eh eo er gd bT b6 c4 r s A c7 c9 c6 et eu de e5;have eV:=h.ga.mono (h':=p) λd f=>V.get d (by have:=(h.ba d f).2.1;omega);have eX:=h.gb.mono (h':=p) λd f=>V.get d (by have:=(h.bb d f).2;omega);rw[<-dm];generalize bu:dQ (dQ (dQ (dQ p m _) z _) (g.size+1) _) (g.size+1+1) _=ae;have ha:ae.size=p.size:=by rw[<-bu];simp
   have In:gu 0 ae:=by rw[<-bu];exact(((L.put _ _).put _ _).put _ _).put _ _
   have G:∀d,ae.get d=if d=g.size+1+1 then _ else if d=g.size+1 then _ else if d=z then _ else if d=m then _ else p.get d:=λd=>by
    rw[<-bu,md (by simpa using L.hp) dq,md (by simpa using L.hp) dq,md (by simpa using L.hp) dq,md L.hp ea]
   clear bu;have Go:∀d,d≠g.size+1+1->d≠g.size+1->d≠z->d≠m->ae.get d=p.get d:=λd fA fB fC fE=>by rw[G,ao fA,ao fB,ao fC,ao fE]
   have eU:=eV.setAt a8 al i.a.toNat (dw v) (h':=ae) (by rw[G,ao dj,ao dj,ao dj,aq rfl]);have eW:=eX.setAt an bz i.a.toNat (.arr C.size b9 0 W.length false) (h':=ae) (by rw[G,ao dj,ao dj,aq rfl]);have eB:∀d,dL Y=some d->d=m:=λd f=>by rw[a8]at f;simpa using f.symm
   have eC:∀d,dL Z=some d->d=z:=λd f=>by rw[an]at f;simpa using f.symm
   refine⟨⟨IntKind.i64.wrap (j.pC+1),j.iA.set i.a.toNat v,j.jN.set i.a.toNat W,j.dH⟩,Y,Z,Q.set i.a.toNat (.arr C.size b9 0 W.length false),fv,rfl,⟨?_,?_,?_,λd f=> ?_,λd f=> ?_⟩,λd f hr=> ?_,⟨(In.out g).hp,(In.out g).low,dq⟩,λ_=>⟨⟨dp,by simp;exact w.tl,λu hl=> ?_⟩,rfl⟩⟩
   ·have:=eU.out g;simpa[ge,bR]using this
   ·exact eW.out g
   ·refine h.el.set i.a.toNat ⟨.inr ?_,λd f=> ?_⟩ λe u k=>⟨k.1.mono λd f=> ?_,λd f=> ?_⟩
    ·have:=Gr.new ((Go C.size dj dj dj dj).trans gA);simpa using this.out g
    ·simp at f;subst f;exact⟨by show dv<=_;omega,dq,λk=>by have:=eB _ k;omega,λk=>by have:=eC _ k;omega⟩
    ·obtain⟨bC,dn,ce,cp⟩:=k.2 d f;rw[fK,Go d dj dj (λk=>cp (by rw[k];exact an)) (λk=>ce (by rw[k];exact a8))];exact V.get d dj
    ·obtain⟨bC,dn,ce,cp⟩:=k.2 d f;exact⟨bC,dq,ce,cp⟩
   ·have:=h.ba d f;exact⟨this.1,dq,this.2.2⟩
   ·have:=h.bb d f;exact⟨this.1,dq⟩
   ·have hr:d<dv\/e7<=d:=hr;rw[fK,Go d dj dj dj dj];exact V.get d f
   ·rcases bV hl with k|rfl
    ·exact w.tn u k
    ·exact K
structure VI where
 (c:fM) (s:dZ) (a b:T) (es:List T) (lo hi N:Nat)
structure Ts(N:Nat)(s:dZ):Prop where
 rl:s.iA.length<=1000
 tl:s.jN.length<=1000
 tn:∀l∈s.jN,Tn N l
def MX(d:VI)(f:List T)(e:H):Prop:=f=[d.c.t,AE d.s d.a d.b]/\Al d.lo d.hi e d.a d.b d.es d.s/\d.hi<=e.size/\gu 0 e/\Ts d.N d.s/\d.N<=1000000/\d.c.iS.length<=10000001
def Bp(e:VI)(h:List T)(c:H)(g:T)(d:H):Prop:=∃a f,g= .tuple [a.t,.bool f]/\Ts e.N a/\(a.dH=e.s.dH\/a.dH=0)/\d.size=c.size/\(∀b,b<c.size->d.get b=c.get b)/\gu 0 d
def GQ(d:List Int):∀a∈ge d,cn a=a/\jE a=true/\∀b,a≠ .agg b:=λa c=>by obtain⟨e,_,rfl⟩:=List.mem_map.1 c;simp
def Al.fz{o m:Nat}{h:H}{g l:T}{p:List T}{e:dZ}(c:Al o m h g l p e)(k:Nat->Prop)(i:∀a,o<=a->a<m->k a):io (FT h k 3) [dw e.pC,g,l,dw e.dH] e.cs:=
 .cons (fR ..) (.cons ((show oO h 1 g (ge e.iA)from .inr c.ga).ft (d:=1) (GQ _) λa b=>i a (c.ba a b).1 (c.ba a b).2.1)
  (.cons (c.gb.ft (λa b=>i a (c.bb a b).1 (c.bb a b).2) (c.el.Uw (f:=λn=>sl (ge n)) λq n j=>j.1.ft (d:=0) (GQ _) λa b=>i a (j.2 a b).1 (j.2 a b).2.1)) (.cons (fR ..) .nil)))
def Te{i:VI}{args:List T}{b d:H}{e:List T}{s':dZ}{ok:Bool}{V:Nat->Prop}(o:gu 0 b)(a:Nb b d)(l:∀c,V c->b.size<=c)(k:io (FT d V 3) e s'.cs)(q:Ts i.N s')(n:s'.dH=i.s.dH\/s'.dH=0):xv b (.tuple [.agg e,.bool ok]) d (Bp i args b):=by
 obtain⟨p,h,j⟩:=FT.tup dj l k ok;refine⟨a.ok.hp,a.ok.sz,λc r m _=> .inl (a.get c m),p,h,s',ok,by rw[j];rfl,q,n,rfl,λg f=>(yk a.ok.hp a.ok.sz f).trans (a.get g f),o.cut a.ok.hp a.ok.sz⟩
def Ju:dZ:=⟨0,[],[],0⟩
def Ca{d:VI}{c:List T}{a b:H}(f:gu 0 a)(e:Nb a b):xv a (.tuple [.agg [dw 0,dx,dx,dw 0],.bool false]) b (Bp d c a):=
 Te (s':=Ju) (V:=λ_=>False) f e (λ_ g=>g.elim) (.cons (fR ..) (.cons (iQ ..) (.cons (iQ ..) (.cons (fR ..) .nil)))) ⟨by simp[Ju],by simp[Ju],by simp[Ju]⟩ (.inr rfl)
structure SeS(c:fM)(s:dZ)(N:Nat)(h h':H)(s':dZ)(a' b':T)(es':List T)(ver:Nat):Prop where
 tx:Al (h.size+1+1+1) h'.size h' a' b' es' s'
 nb:Nb h h'
 hz:h.size+1+1+1<=h'.size
 g2:h'.get h.size=some (dy 2 0 [c.t])
 g3:h'.get (h.size+1)=some (dy 4 ver [.agg [dw s'.pC,a',b',dw s'.dH]])
 g4:h'.get (h.size+1+1)=some (dy 4 0 [.agg [dw 0,dx,dx,dw 0]])
 to:TOk N s.iA.length s'
 ev:s'.dH=s.dH
def Ns:(jp VI MX Bp).Ok Tryz.prog cx 164:=by
 refine pW (tb:=⟨pt [(206,tR)],ht [(207,jp ICp M0 If),(208,jp RR MW JG)]⟩) ei eg (iL 1182933510117985879039 [] Tryz.func164) (λz a=>10000005) (λi z a di=>by obtain⟨rfl,_⟩:=di;simp[Tryz.f164]) ?_;rintro⟨b,d,z,T,a6,bz,bl,S⟩ _ a ⟨rfl,s,c7,ok,tb,bi,w⟩ y bk;simp only at s c7 tb bi w;simp[AE]at bk;obtain⟨c1,J⟩:=bk;have bs:=λJ:H=>s.ga.len (cx:=cx) J Qf _ rfl;have bu:=λJ:H=>s.gb.len (cx:=cx) J Mn _ rfl;rw[aH]at bs;rw[s.el.length]at bu;simp[Tryz.f164,c1,J,bs,bu];generalize v:(((TI.hr a).cons _).cons _).cons _=r;have ec:gu 0 r:=by rw[<-v];exact((ok.hr.cons _).cons _).cons _
 have eI:r.size=a.size+1+1+1:=by rw[<-v];rfl
 have ap:Nb a r:=by rw[<-v];exact⟨((((Nb.refl ok.hr).cons _).cons _).cons _).ok,λb w=>(((((Nb.refl ok.hr).cons _).cons _).cons _).get b w).trans (fX a b)⟩
 have b7:r.get a.size=some (dy 2 0 [b.t]):=by rw[<-v];simp
 have aN:r.get (a.size+1)=some (dy 4 0 [.agg [dw d.pC,z,T,dw d.dH]]):=by rw[<-v];simp
 have U:r.get (a.size+1+1)=some (dy 4 0 [.agg [dw 0,dx,dx,dw 0]]):=by rw[<-v];simp
 clear v;have cL:∀c,(dQ r (a.size+1+1) c).get (a.size+1+1)=some c:=λc=>(dE U c _).trans (aq rfl);refine dU (λM=> ?_) (λM=> ?_)
 ·simp[U,cL,dP];exact Ca ok (ap.put U dj _)
 simp at M;have eb:∀b,bz<=b->b<bl->r.get b=a.get b:=λb _ w=>ap.get b dj;have aA:=s.mono (au _) (au _) eb;simp[aN];refine gJ Gu dp ⟨d,z,T,a6⟩ ⟨rfl,⟨.inr aA.ga,.inr aA.gb,aA.el.imp λ_ _ p=>p.1,λe h he an=> ?_⟩,ec,by have:=tb.rl;simp only;omega,by have:=tb.tl;simp only;omega,λl hl=>by have:=(tb.tn l hl).1;omega⟩ ?_
 ·rcases he with rfl|rfl|he
  ·have:=(s.ba h an).2.1;omega
  ·have:=(s.bb h an).2;omega
  ·obtain⟨l,p,k⟩:=s.el.left he;have:=(k h an).2.1;omega
 rintro _ g ⟨a1,n,ZO,rfl,bT,x⟩;simp only at bT;have eF:=x.ok.sz;have b8:=(x.get _ dj).trans b7;have A:=(x.get _ dj).trans aN;have b9:=(x.get _ dj).trans U;have bH:Nb a (dQ g (a.size+1) (dy 4 1 [.agg [dw d.pC,a1,n,dw d.dH]])):=(ap.trans x).put A dj _;have eo:=bT.mono (lo':=a.size+1+1+1) (hi':=(dQ g (a.size+1) (dy 4 1 [.agg [dw d.pC,a1,n,dw d.dH]])).size) (h':=dQ g (a.size+1) (dy 4 1 [.agg [dw d.pC,a1,n,dw d.dH]])) dj dp λb w _=>by rw[dE A,ao dj]
 have eE:gu 0 g:=⟨x.ok.hp,x.ok.low,aw _⟩;have ca:(dQ g (a.size+1) (dy 4 1 [.agg [dw d.pC,a1,n,dw d.dH]])).get a.size=_:=(show(dQ g (a.size+1) (dy 4 1 [.agg [dw d.pC,a1,n,dw d.dH]])).get a.size=g.get a.size by rw[dE A,ao dj]).trans b8;have cb:(dQ g (a.size+1) (dy 4 1 [.agg [dw d.pC,a1,n,dw d.dH]])).get (a.size+1)=_:=(dE A _ _).trans (aq rfl);have aX:(dQ g (a.size+1) (dy 4 1 [.agg [dw d.pC,a1,n,dw d.dH]])).get (a.size+1+1)=_:=(show(dQ g (a.size+1) (dy 4 1 [.agg [dw d.pC,a1,n,dw d.dH]])).get (a.size+1+1)=g.get (a.size+1+1)by rw[dE A,ao dj]).trans b9;simp[AE,A,dP];generalize dQ g (a.size+1) _=eA at*
 refine fc (b.iS.length+1) dj (λO y h'=>∃q G I V R,SeS b d S a h' q G I V R/\dz y 2 (.ptr a.size 0 0 0)/\dz y 3 (.ptr (a.size+1) 0 0 0)/\dz y 4 (.ptr (a.size+1+1) 0 0 0)/\dz y 6 (dw O)) ?_ ?_ dj ?_
 ·rintro O y h' eB c4 ⟨q,G,I,V,R,⟨aE,o,dm,B,C,f,m,al⟩,E,F,u,K⟩;have D:∀c,(dQ h' (a.size+1+1) c).get (a.size+1+1)=some c:=λc=>(dE f c _).trans (aq rfl);have bS:gu 0 h':=⟨o.ok.hp,o.ok.low,aw _⟩;simp[E,F,K,B,C,show(O:Int)<=b.iS.length by omega];refine dU (λM=> ?_) (λM=> ?_)
  ·simp[u,f,D,dP];exact Ca ok (o.put f dj _)
  simp at M;obtain⟨Y,L⟩:∃Y:Nat,q.pC=Y:=⟨q.pC.toNat,dj⟩;have c9:Y<b.iS.length:=dj;have ea:(a.size=h'.size)=False:=dq;have bB:(a.size+1=h'.size)=False:=dq;have bC:(a.size+1+1=h'.size)=False:=dq;have dd:=bS.low;simp[E,F,B,C,L,c9,dd,vZ];generalize b.iS[Y]=h at*
  have eD:=o.cons (dy 6 1 [h.t]);have er:Ts S q:=⟨by have:=m.rl;have:=tb.rl;omega,by have:=m.tl;have:=tb.rl;omega,m.tn⟩;have ey:∀c,((dQ h' (a.size+1+1) c).cons (dy 6 1 [h.t])).get (a.size+1+1)=some c:=λc=>by rw[dM,ao dq];exact D c
  refine dU (λX=> ?_) (λX=> ?_)
  ·have cp:∀c:iJ,∀b,a.size+1+1+1<=b->b<h'.size->((dQ h' (a.size+1+1) c).cons (dy 6 1 [h.t])).get b=h'.get b:=λc b eh av=>by rw[dM,ao dq,dE f,ao dj]
   simp[F,u,C,f,bB,bC,L,D,dP,show a.size+1+1<h'.size by omega];have:=Te (i:=⟨b,d,z,T,a6,bz,bl,S⟩) (args:=[b.t,AE d z T]) (ok:=true) ok ((o.put f dj (dy 4 1 [.agg [dw q.pC,G,I,dw q.dH]])).cons (dy 6 1 [h.t])) (λb w=>(show a.size<=b from w)) ((aE.mono (au _) (au _) (cp _)).fz (λb=>a.size<=b) λb p _=>by omega) er (.inl al);rw[L]at this;exact this
  simp at X;have bn:1<=h.op/\h.op<=5:=by unfold vk at X;simpa using X
  have de:decide ((O:Int)=b.iS.length)=decide (O=b.iS.length):=by rw[decide_eq_decide];omega
  simp[E,K,B,ea,de];refine dU (λdk=> ?_) (λdk=> ?_)
  ·simp[u,f,bC,dP,D,show a.size+1+1<h'.size by omega];exact Ca ok ((o.put f dj _).cons _)
  simp[F,C,bB,L];have et:=aE.mono (h':=h'.cons (dy 6 1 [h.t])) (au _) (au _) λb _ p=>by rw[dM,ao dj]
  refine gJ Nr dp ⟨h,q,G,I,V,a.size+1+1+1,h'.size,S⟩ ⟨by simp[AE,L],et,dp,bS.cons _,bn.1,bn.2,⟨rfl,by have:=m.rl;have:=m.tl;simp only;omega,m.tn⟩,by have:=tb.rl;have:=m.rl;simp only;omega,bi⟩ ?_;rintro _ j ⟨Q,a2,ae,J6,ef,rfl,b6,a7,P,a8⟩;simp only[Yg]at b6 a7 P a8;have eH:=P.sz;have W:∀b,b<a.size+1+1+1->j.get b=h'.get b:=λb p=>(a7 b dj (.inl p)).trans (by rw[dM,ao dj]);have dn:=(W a.size dj).trans B;have N:=(W (a.size+1) dj).trans C;have Z:=(W (a.size+1+1) dj).trans f;have eC:(a.size=j.size)=False:=dq;have ds:(a.size+1=j.size)=False:=dq;have dv:(a.size+1+1=j.size)=False:=dq;have bN:Nb a j:=⟨⟨P.hp,P.low,dj⟩,λb p=>(W b dj).trans (o.get b p)⟩;have ce:∀c,(dQ j (a.size+1+1) c).get (a.size+1+1)=some c:=λc=>(dE Z c _).trans (aq rfl);simp[AE,P.low,dP];cases ef with
  |false=>
   simp[u,Z,dv,dP,ce,show a.size+1+1<j.size by omega];exact Ca ok ((bN.put Z dj _).cons _)
  |true=>
   obtain⟨t2,eu⟩:=a8 rfl;simp[E,F,u,K,N,ds,dP,c4,show a.size+1<j.size by omega];have e:∀b,b<a.size+1+1+1->b≠a.size+1->((dQ j (a.size+1) (dy 4 (R+1) [.agg [dw Q.pC,a2,ae,dw Q.dH]])).cons (dy 4 1 [.agg [dw Q.pC,a2,ae,dw Q.dH]])).get b=j.get b:=λb eh av=>by rw[dM,ao dq,dE N,ao av]
   refine⟨Q,a2,ae,J6,R+1,b6.mono (au _) dp λb p av=> ?_,(bN.put N dj _).cons _,dq,(e _ dj dj).trans dn,?_,(e _ dj dj).trans Z,⟨by rw[t2.rl];exact m.rl,by rw[t2.tl];exact m.rl,t2.tn⟩,by rw[eu];exact al⟩
   ·rw[dM,ao dq,dE N,ao dj]
   ·rw[dM,ao dq,dE N,aq rfl]
 ·rintro y h' ⟨q,G,I,V,R,⟨aE,o,dm,B,C,f,m,al⟩,E,F,u,K⟩;have D:∀c,(dQ h' (a.size+1+1) c).get (a.size+1+1)=some c:=λc=>(dE f c _).trans (aq rfl);have c6:((b.iS.length:Int)+1<=b.iS.length)=False:=dq;simp[E,u,K,B,f,D,dP,c6];exact Ca ok (o.put f dj _)
 ·simp;exact⟨d,a1,n,ZO,1,eo,bH,by have:=bH.ok.sz;have:=H.ej aX;omega,ca,cb,aX,⟨rfl,dj,tb.tn⟩,rfl⟩
end
end Go.Proofs.YtmaeadedikngoaaGreatDoor
