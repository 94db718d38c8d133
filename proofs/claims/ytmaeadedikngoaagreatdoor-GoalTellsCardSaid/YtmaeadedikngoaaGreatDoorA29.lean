/- Texts W07d to W07e. -/
import Derived.Test.YtmaeadedikngoaaGreatDoorA25
import Derived.Test.YtmaeadedikngoaaGreatDoorA28
set_option linter.all false
set_option maxRecDepth 100000
set_option maxHeartbeats 8000000
namespace Go.Proofs.YtmaeadedikngoaaGreatDoor
noncomputable section
open Go Go.TI
attribute [-simp] List.map_take List.map_drop List.map_append fG fg ei Bool.not_or Bool.not_and
attribute [simp] fF fh
attribute [-simp] size_cons
structure TN where
 (i:fT) (s:eG) (a b:T) (es:List T) (lo hi N:Nat)
structure TOk(N r:Nat)(s:eG):Prop where
 rl:s.iT.length=r
 tl:s.j8.length=r
 tn:∀l∈s.j8,Tn N l
def Ol(c:TN)(e:List T)(d:H):Prop:=e=[c.i.t,Bn c.s c.a c.b]/\A3 c.lo c.hi d c.a c.b c.es c.s/\c.hi<=d.size/\ig 0 d/\1<=c.i.op/\c.i.op<=5/\TOk c.N c.s.iT.length c.s/\c.s.iT.length<=1000/\c.N<=1000000
def KY(a:TN)(k:List T)(e:H)(j:T)(c:H):Prop:=∃d f g i h,j= .tuple [Bn d f g,.bool h]/\A3 a.lo c.size c f g i d/\(∀b,b<e.size->(b<a.lo\/a.hi<=b)->c.get b=e.get b)/\ig e.size c/\(h=true->TOk a.N a.s.iT.length d/\d.dO=a.s.dO)
def A3.mono{g f lo' hi':Nat}{k h':H}{h i:T}{j:List T}{l:eG}(c:A3 g f k h i j l)(hl:lo'<=g)(n:f<=hi')(e:∀a,g<=a->a<f->h'.get a=k.get a):A3 lo' hi' h' h i j l:=
 ⟨c.ga.mono λa b=>e a (c.ba a b).1 (c.ba a b).2.1,c.gb.mono λa b=>e a (c.bb a b).1 (c.bb a b).2,c.el.imp λm o d=>⟨d.1.mono λa b=>e a (d.2 a b).1 (d.2 a b).2.1,λa b=>⟨by have:=(d.2 a b).1;omega,by have:=(d.2 a b).2.1;omega,(d.2 a b).2.2⟩⟩,λa b=>⟨by have:=(c.ba a b).1;omega,by have:=(c.ba a b).2.1;omega,(c.ba a b).2.2⟩,λa b=>⟨by have:=(c.bb a b).1;omega,by have:=(c.bb a b).2;omega⟩⟩
def A3.same{h g:Nat}{f:H}{c d:T}{e:List T}{b s':eG}(a:A3 h g f c d e b)(i:s'.iT=b.iT)(j:s'.j8=b.j8):A3 h g f c d e s':=⟨by rw[i];exact a.ga,a.gb,by rw[j];exact a.el,a.ba,a.bb⟩
def A3.zero(e d:Nat)(c:H):A3 e d c dF dF [] ⟨0,[],[],0⟩:=⟨Gr.nil _ _,Gr.nil _ _,.nil,λb a=>by simp at a,λb a=>by simp at a⟩
def OW:(jw TN Ol KY).Ok Tryz.prog cx 208:=by
 refine jo (tb:=⟨pt [(97,mY),(234,xL.jv),(233,Hq.jv),(235,EG.jv)],ht [(155,jw IUn Oj Jl)]⟩) fa eQ (iR 9904163146420522906957187071 [(20,[(2,4),(2,6),(2,7),(2,8)]),(10,[(2,4),(2,6),(2,7),(2,8),(2,10),(2,12),(2,13),(2,14)]),(22,[(1,11),(3,11),(5,11),(7,11),(5,13),(7,13)])] Tryz.func208) (λ_ _=>100) (λi Y g fb=>by obtain⟨rfl,_⟩:=fb;simp[Tryz.f208]) ?_;rintro⟨i,j,Y,Z,Q,dn,e8,N⟩ _ g ⟨rfl,h,e7,cp,fe,fi,w,hr,e4⟩ l c7;simp only at h e7 fe fi w hr e4;simp[Bn]at c7;obtain⟨eX,e0⟩:=c7;simp[Tryz.f208,eX,e0,uS];generalize R:(((TI.hr g).cons _).cons _).cons _=q;have F:ig 0 q:=by rw[<-R];exact((cp.hr.cons _).cons _).cons _
 have gk:q.size=g.size+1+1+1:=by rw[<-R];rfl
 have av:Nb g q:=by rw[<-R];exact⟨((((Nb.refl cp.hr).cons _).cons _).cons _).ok,λd f=>(((((Nb.refl cp.hr).cons _).cons _).cons _).get d f).trans (gh g d)⟩
 have O:q.get g.size=some (dG 6 0 [i.t]):=by rw[<-R];simp
 have P:q.get (g.size+1)=some (dG 4 0 [.agg [dE j.pC,Y,Z,dE j.dO]]):=by rw[<-R];simp
 have aA:q.get (g.size+1+1)=some (dG 4 0 [.agg [dE 0,dF,dF,dE 0]]):=by rw[<-R];simp
 clear R;have dm:=h.ga.len (cx:=cx) q RH _ rfl;rw[aG]at dm;have eW:∀y,(dY q (g.size+1+1) y).get (g.size+1+1)=some y:=λy=>(dP aA y _).trans (aq rfl);have gB:=B4 i;refine fy (iV i).length dz (λU l h'=>q=h'/\dH l 2 (.ptr g.size 0 0 0)/\dH l 3 (.ptr (g.size+1) 0 0 0)/\dH l 4 (.ptr (g.size+1+1) 0 0 0)/\dH l 6 (sl (gF (iV i)))/\dH l 7 (dE U)/\∀E∈(iV i).take U,0<=E/\E<j.iT.length) ?_ ?_ dz dA
 ·rintro U l _ ap e5 ⟨rfl,r,s,A,bp,bs,D⟩;have fl:(iV i).take (U+1)=(iV i).take U++[(iV i)[U]]:=aZ ap;simp[s,bp,bs,ap,P,dm];generalize(iV i)[U]=E at*
  refine ee (λbi=> ?_) (λbi=> ?_)
  ·simp[A,aA,eW,dZ];refine⟨⟨0,[],[],0⟩,_,_,_,false,rfl,A3.zero _ _ _,λd f _=> ?_,⟨(F.put _ _).out g|>.hp,(F.put _ _).out g|>.low,dB⟩,dA⟩;rw[fO,dP aA,ao dz];exact av.get d f
  ·simp at bi;simp[r,s,A,bp,bs,e5,fl];intro x ca;rcases ca with ca|rfl
   ·exact D x ca
   ·omega
 ·rintro l _ ⟨rfl,r,s,A,bp,bs,D⟩;rw[aO]at D;simp[r,bp,bs,O];have bN:oG q 1 Y (gF j.iT):= .inr (h.ga.mono λd f=>av.get d (by have:=(h.ba d f).2.1;omega));have bS:oG q 1 Z Q:= .inr (h.gb.mono λd f=>av.get d (by have:=(h.bb d f).2;omega));have bH:∀E:Int,0<=E->E<j.iT.length->∃u e,j.j8[E.toNat]? =some u/\Q[E.toNat]? =some e/\oG q 1 e (gF u)/\Tn N u:=λE r0 r1=>by
   have ap:E.toNat<j.j8.length:=by have:=w.tl;omega
   obtain⟨e,bB,k⟩:=h.el.get (az ap);exact⟨_,e,az ap,bB,k.1.mono λd f=>av.get d (by have:=(k.2 d f).2.1;omega),w.tn _ (aC ap)⟩
  refine ll (λl C=>∃(v:Int) (eu:T) (X:T) (W:List Int),ER eu/\Nb q C/\oG C 1 X (gF W)/\Tn N W/\je i.a j.iT.length=true/\dH l 2 (.ptr g.size 0 0 0)/\dH l 3 (.ptr (g.size+1) 0 0 0)/\dH l 4 (.ptr (g.size+1+1) 0 0 0)/\dH l 8 (dE v)/\dH l 9 eu/\dH l 10 X) (λbi=> ?_) (λbi=> ?_) ?_
  ·simp[r,s,A,O,P,aA,dZ,mM,F.hp,gk];refine⟨{j with pC:=i.a},Y,Z,Q,true,rfl,(h.mono (au _) dB λd _ f=> ?_).same rfl rfl,λd f _=> ?_,⟨(((F.put _ _).put _ _).out g).hp,(((F.put _ _).put _ _).out g).low,dB⟩,λ_=>⟨⟨rfl,w.tl,w.tn⟩,rfl⟩⟩
   all_goals (rw[fO,mM (by simpa using F.hp) dB,ao dz,dP P,ao dz];exact av.get d dz)
  ·have gy:¬i.op=5:=by simpa using bi
   have f:i.op=1\/i.op=2\/i.op=3\/i.op=4:=dz;rcases f with e|e|e|e
   ·have I:=D i.a (by unfold iV;simp[e]);simp[r,s,A,O,e];exact⟨_,_,⟨_,rfl⟩,Nb.refl F,_,[],.inr (Gr.nil _ _),Tn.nil N,fq.2 ⟨I.1,dz⟩,rfl,rfl,rfl⟩
   ·have I:=D i.a (by unfold iV;simp[e]);have B:=D i.b (by unfold iV;simp[e]);obtain⟨p1,aE,aN⟩:=bN.idx (te:=GR) rfl rfl (i:=i.b.toNat) (x:= dE j.iT[i.b.toNat]) (by simp[show i.b.toNat<j.iT.length by omega]) rfl;obtain⟨u,X,hl,bk,M,K⟩:=bH i.b B.1 B.2;obtain⟨p2,aX,a6⟩:=bS.idx (te:=nH) rfl rfl bk M.il.2;simp[r,s,A,O,P,e,eK B.1,aE,aN,aX,a6];exact⟨_,_,⟨_,rfl⟩,Nb.refl F,_,u,M,K,fq.2 ⟨I.1,dz⟩,rfl,rfl,rfl⟩
   ·have I:=D i.a (by unfold iV;simp[e]);have B:=D i.b (by unfold iV;simp[e]);obtain⟨p1,aE,aN⟩:=bN.idx (te:=GR) rfl rfl (i:=i.b.toNat) (x:= dE j.iT[i.b.toNat]) (by simp[show i.b.toNat<j.iT.length by omega]) rfl;obtain⟨u,X,hl,bk,M,K⟩:=bH i.b B.1 B.2;obtain⟨p2,aX,a6⟩:=bS.idx (te:=nH) rfl rfl bk M.il.2;obtain⟨_,⟨o,rfl⟩,b7⟩:=xL.use i.n trivial;obtain⟨_,⟨gi,fA,rfl⟩,a7⟩:=Hq.use (o,j.iT[i.b.toNat]) trivial;simp only at a7;simp[r,s,A,O,P,e,eK B.1,aE,aN,aX,a6,b7,a7];exact⟨_,_,⟨_,rfl⟩,Nb.refl F,_,u,M,K,fq.2 ⟨I.1,dz⟩,rfl,rfl,rfl⟩
   ·have I:=D i.a (by unfold iV;simp[e]);have B:=D i.b (by unfold iV;simp[e]);have b9:=D i.c (by unfold iV;simp[e]);obtain⟨p1,aE,aN⟩:=bN.idx (te:=GR) rfl rfl (i:=i.b.toNat) (x:= dE j.iT[i.b.toNat]) (by simp[show i.b.toNat<j.iT.length by omega]) rfl;obtain⟨p3,eD,eE⟩:=bN.idx (te:=GR) rfl rfl (i:=i.c.toNat) (x:= dE j.iT[i.c.toNat]) (by simp[show i.c.toNat<j.iT.length by omega]) rfl;obtain⟨u,X,hl,bk,M,K⟩:=bH i.b B.1 B.2;obtain⟨l2,gj,gz,fo,ea,et⟩:=bH i.c b9.1 b9.2;obtain⟨p2,aX,a6⟩:=bS.idx (te:=nH) rfl rfl bk M.il.2;obtain⟨p4,eF,eH⟩:=bS.idx (te:=nH) rfl rfl fo ea.il.2;obtain⟨_,⟨o,rfl⟩,b7⟩:=xL.use i.n trivial;obtain⟨_,⟨gi,fA,rfl⟩,a7⟩:=EG.use (o,j.iT[i.b.toNat],j.iT[i.c.toNat]) trivial;simp only at a7;simp[r,s,O,P,e,eK B.1,eK b9.1,aE,aN,aX,a6,eD,eE,eF,eH,b7,a7];refine iq Ho dA ⟨u,l2,X,gj⟩ ⟨rfl,M,ea,by have:=K.1;have:=et.1;simp only;omega,F⟩ ?_;rintro E C ⟨gd,J,_⟩;simp[r,s,A];exact⟨_,_,⟨_,rfl⟩,J,_,_,gd,K.union et,fq.2 ⟨I.1,dz⟩,rfl,rfl,rfl⟩
  ·rintro l C ⟨v,_,X,W,⟨fB,rfl⟩,J,fY,K,I,r,s,A,c4,c6,c1⟩;have bT:=(J.get _ dz).trans O;have bX:=(J.get _ dz).trans P;have cX:=(J.get _ dz).trans aA;have hb:=J.ok.sz;obtain⟨b8,p,b6,⟨gP,gp,gA⟩,gZ,bn,L⟩:=kQ (cx:=cx) (⟨J.ok.hp,J.ok.low,aw _⟩:ig 0 C) ko rfl nc ko rfl rfl dA fY.jf (by simp[T.cells]) (by have:=K.1;simp;omega);have S:=fq.1 I;have V:Nb g p:=⟨⟨L.hp,L.low,dz⟩,λd f=>(bn d dz).trans ((J.get d dz).trans (av.get d f))⟩;have gm:=(bn _ dz).trans bT;have eB:=(bn _ dz).trans bX;have eC:=(bn _ dz).trans cX;obtain⟨m,gn,gQ,gv,gV,a8,c9,al,dd⟩:=(h.ga.mono (h':=p) λd f=>V.get d (by have:=(h.ba d f).2.1;omega)).JS (te:=GR) rfl (i:=i.a.toNat) (by simpa using S.2);obtain⟨z,eI,gS,gw,gX,an,e6,bz,de⟩:=(h.gb.mono (h':=p) λd f=>V.get d (by have:=(h.bb d f).2;omega)).JS (te:=nH) rfl (i:=i.a.toNat) (by rw[h.el.length,w.tl];exact S.2);simp at b6;have bC:=(h.ba m a8).2.2;have dk:¬m=z:=λk=>bC (by rw[k];exact an);have ds:=H.ew al;have fv:=H.ew bz;have dv:=(h.ba m a8);have gM:=(h.bb z an);have gE:=dv.1;have gI:=dv.2.1;obtain⟨e,bB,fX⟩:=h.el.get (az (show i.a.toNat<j.j8.length by rw[w.tl];exact S.2));have eo:=BZ (x:= .arr C.size b8 0 W.length false) fX.1.na;have fs:Q[i.a.toNat]'(by rw[h.el.length,w.tl];exact S.2)=e:=by rw[az (by rw[h.el.length,w.tl];exact S.2)]at bB;simpa using bB
   rw[fs]at de;have er:∀x:Int,mr (dE x) 0 [dE v]=some (dE v):=λx=>rfl;have cL:∀d,d<C.size->fc (C.cons (dG 1 0 [])) p d=true:=λd f=>fk ((bn d f).trans (by rw[dV,ao dz]));have eb:=cL g.size dz;have ec:=cL (g.size+1) dz;have ef:=mW al (show g.size≠m by omega);have eh:=mW al (show g.size+1≠m by omega);have gg:=mW al (show z≠m by omega);have eL:(g.size+1=m)=False:=dB;have eM:(g.size+1=z)=False:=dB;have eN:(g.size+1+1=m)=False:=dB;have eO:(g.size+1+1=z)=False:=dB;have eP:(z=m)=False:=dB;have l1:g.size+1<p.size:=dz;have l2:g.size+1+1<p.size:=dz;have di:Z= .arr z eI 0 Q.length false:=by
    obtain⟨_,_,_,_,k,e⟩:=(h.gb.mono (h':=p) λd f=>V.get d (by have:=(h.bb d f).2;omega)).box an;rw[bz]at k;simp at k;rw[e,k.1]
   have e9:i.a.toNat<Q.length:=by rw[h.el.length,w.tl];exact S.2
   simp at dd;simp[r,s,A,c4,c6,c1,bT,bX,b6,eK S.1,c9,di,e9,al,bz,eB,eC,dd,de,er,eo,eb,ec,ef,eh,mM,L.hp,ds,fv,eL,eM,eN,eO,eP,l1,l2,dZ,ou];clear b6 cL eb ec ef eh gg bT bX cX r s A c4 c6 c1 eo er c9 e6;have eS:=h.ga.mono (h':=p) λd f=>V.get d (by have:=(h.ba d f).2.1;omega);have eV:=h.gb.mono (h':=p) λd f=>V.get d (by have:=(h.bb d f).2;omega);rw[<-di];generalize bu:dY (dY (dY (dY p m _) z _) (g.size+1) _) (g.size+1+1) _=ae;have ha:ae.size=p.size:=by rw[<-bu];simp
   have Jz:ig 0 ae:=by rw[<-bu];exact(((L.put _ _).put _ _).put _ _).put _ _
   have G:∀d,ae.get d=if d=g.size+1+1 then _ else if d=g.size+1 then _ else if d=z then _ else if d=m then _ else p.get d:=λd=>by
    rw[<-bu,mM (by simpa using L.hp) dB,mM (by simpa using L.hp) dB,mM (by simpa using L.hp) dB,mM L.hp ds]
   clear bu;have Go:∀d,d≠g.size+1+1->d≠g.size+1->d≠z->d≠m->ae.get d=p.get d:=λd fC fE fL fS=>by rw[G,ao fC,ao fE,ao fL,ao fS]
   have eR:=eS.setAt a8 al i.a.toNat (dE v) (h':=ae) (by rw[G,ao dz,ao dz,ao dz,aq rfl]);have eU:=eV.setAt an bz i.a.toNat (.arr C.size b8 0 W.length false) (h':=ae) (by rw[G,ao dz,ao dz,aq rfl]);have ey:∀d,dS Y=some d->d=m:=λd f=>by rw[a8]at f;simpa using f.symm
   have eA:∀d,dS Z=some d->d=z:=λd f=>by rw[an]at f;simpa using f.symm
   refine⟨⟨IntKind.i64.wrap (j.pC+1),j.iT.set i.a.toNat v,j.j8.set i.a.toNat W,j.dO⟩,Y,Z,Q.set i.a.toNat (.arr C.size b8 0 W.length false),fB,rfl,⟨?_,?_,?_,λd f=> ?_,λd f=> ?_⟩,λd f hr=> ?_,⟨(Jz.out g).hp,(Jz.out g).low,dB⟩,λ_=>⟨⟨dA,by simp;exact w.tl,λu hl=> ?_⟩,rfl⟩⟩
   ·have:=eR.out g;simpa[gF,bY]using this
   ·exact eU.out g
   ·refine h.el.set i.a.toNat ⟨.inr ?_,λd f=> ?_⟩ λe u k=>⟨k.1.mono λd f=> ?_,λd f=> ?_⟩
    ·have:=Gr.new ((Go C.size dz dz dz dz).trans gA);simpa using this.out g
    ·simp at f;subst f;exact⟨by show dn<=_;omega,dB,λk=>by have:=ey _ k;omega,λk=>by have:=eA _ k;omega⟩
    ·obtain⟨bC,dk,cb,ce⟩:=k.2 d f;rw[fO,Go d dz dz (λk=>ce (by rw[k];exact an)) (λk=>cb (by rw[k];exact a8))];exact V.get d dz
    ·obtain⟨bC,dk,cb,ce⟩:=k.2 d f;exact⟨bC,dB,cb,ce⟩
   ·have:=h.ba d f;exact⟨this.1,dB,this.2.2⟩
   ·have:=h.bb d f;exact⟨this.1,dB⟩
   ·have hr:d<dn\/e8<=d:=hr;rw[fO,Go d dz dz dz dz];exact V.get d f
   ·rcases cg hl with k|rfl
    ·exact w.tn u k
    ·exact K
structure XE where
 (c:fZ) (s:eG) (a b:T) (es:List T) (lo hi N:Nat)
structure U6(N:Nat)(s:eG):Prop where
 rl:s.iT.length<=1000
 tl:s.j8.length<=1000
 tn:∀l∈s.j8,Tn N l
def Om(d:XE)(f:List T)(e:H):Prop:=f=[d.c.t,Bn d.s d.a d.b]/\A3 d.lo d.hi e d.a d.b d.es d.s/\d.hi<=e.size/\ig 0 e/\U6 d.N d.s/\d.N<=1000000/\d.c.jl.length<=10000001
def Cf(e:XE)(h:List T)(c:H)(g:T)(d:H):Prop:=∃a f,g= .tuple [a.t,.bool f]/\U6 e.N a/\(a.dO=e.s.dO\/a.dO=0)/\d.size=c.size/\(∀b,b<c.size->d.get b=c.get b)/\ig 0 d
def HW(d:List Int):∀a∈gF d,cn a=a/\jW a=true/\∀b,a≠ .agg b:=λa c=>by obtain⟨e,_,rfl⟩:=List.mem_map.1 c;simp
def A3.fz{o m:Nat}{h:H}{g l:T}{p:List T}{e:eG}(c:A3 o m h g l p e)(k:Nat->Prop)(i:∀a,o<=a->a<m->k a):iB (FT h k 3) [dE e.pC,g,l,dE e.dO] e.cs:=
 .cons (fQ ..) (.cons ((show oG h 1 g (gF e.iT)from .inr c.ga).ft (d:=1) (HW _) λa b=>i a (c.ba a b).1 (c.ba a b).2.1)
  (.cons (c.gb.ft (λa b=>i a (c.bb a b).1 (c.bb a b).2) (c.el.Wc (f:=λn=>sl (gF n)) λq n j=>j.1.ft (d:=0) (HW _) λa b=>i a (j.2 a b).1 (j.2 a b).2.1)) (.cons (fQ ..) .nil)))
def UV{i:XE}{args:List T}{b d:H}{e:List T}{s':eG}{ok:Bool}{V:Nat->Prop}(o:ig 0 b)(a:Nb b d)(l:∀c,V c->b.size<=c)(k:iB (FT d V 3) e s'.cs)(q:U6 i.N s')(n:s'.dO=i.s.dO\/s'.dO=0):yh b (.tuple [.agg e,.bool ok]) d (Cf i args b):=by
 obtain⟨p,h,j⟩:=FT.tup dz l k ok;refine⟨a.ok.hp,a.ok.sz,λc r m _=> .inl (a.get c m),p,h,s',ok,by rw[j];rfl,q,n,rfl,λg f=>(yY a.ok.hp a.ok.sz f).trans (a.get g f),o.cut a.ok.hp a.ok.sz⟩
def KL:eG:=⟨0,[],[],0⟩
def C2{d:XE}{c:List T}{a b:H}(f:ig 0 a)(e:Nb a b):yh a (.tuple [.agg [dE 0,dF,dF,dE 0],.bool false]) b (Cf d c a):=
 UV (s':=KL) (V:=λ_=>False) f e (λ_ g=>g.elim) (.cons (fQ ..) (.cons (jh ..) (.cons (jh ..) (.cons (fQ ..) .nil)))) ⟨by simp[KL],by simp[KL],by simp[KL]⟩ (.inr rfl)
structure SeS(c:fZ)(s:eG)(N:Nat)(h h':H)(s':eG)(a' b':T)(es':List T)(ver:Nat):Prop where
 tx:A3 (h.size+1+1+1) h'.size h' a' b' es' s'
 nb:Nb h h'
 hz:h.size+1+1+1<=h'.size
 g2:h'.get h.size=some (dG 2 0 [c.t])
 g3:h'.get (h.size+1)=some (dG 4 ver [.agg [dE s'.pC,a',b',dE s'.dO]])
 g4:h'.get (h.size+1+1)=some (dG 4 0 [.agg [dE 0,dF,dF,dE 0]])
 to:TOk N s.iT.length s'
 ev:s'.dO=s.dO
def OX:(jw XE Om Cf).Ok Tryz.prog cx 164:=by
 refine qN (tb:=⟨pt [(206,uA)],ht [(207,jw ICp Ou Jp),(208,jw TN Ol KY)]⟩) fa eQ (iR 1182933510117985879039 [] Tryz.func164) (λz a=>10000005) (λi z a dd=>by obtain⟨rfl,_⟩:=dd;simp[Tryz.f164]) ?_;rintro⟨b,d,z,T,a6,bz,bn,S⟩ _ a ⟨rfl,s,c4,ok,tb,bi,w⟩ y bk;simp only at s c4 tb bi w;simp[Bn]at bk;obtain⟨cL,J⟩:=bk;have bs:=λJ:H=>s.ga.len (cx:=cx) J RH _ rfl;have bu:=λJ:H=>s.gb.len (cx:=cx) J IZ _ rfl;rw[aG]at bs;rw[s.el.length]at bu;simp[Tryz.f164,cL,J,bs,bu];generalize v:(((TI.hr a).cons _).cons _).cons _=r;have ea:ig 0 r:=by rw[<-v];exact((ok.hr.cons _).cons _).cons _
 have eF:r.size=a.size+1+1+1:=by rw[<-v];rfl
 have ap:Nb a r:=by rw[<-v];exact⟨((((Nb.refl ok.hr).cons _).cons _).cons _).ok,λb w=>(((((Nb.refl ok.hr).cons _).cons _).cons _).get b w).trans (gh a b)⟩
 have b6:r.get a.size=some (dG 2 0 [b.t]):=by rw[<-v];simp
 have aN:r.get (a.size+1)=some (dG 4 0 [.agg [dE d.pC,z,T,dE d.dO]]):=by rw[<-v];simp
 have U:r.get (a.size+1+1)=some (dG 4 0 [.agg [dE 0,dF,dF,dE 0]]):=by rw[<-v];simp
 clear v;have cp:∀c,(dY r (a.size+1+1) c).get (a.size+1+1)=some c:=λc=>(dP U c _).trans (aq rfl);refine ee (λM=> ?_) (λM=> ?_)
 ·simp[U,cp,dZ];exact C2 ok (ap.put U dz _)
 simp at M;have dv:∀b,bz<=b->b<bn->r.get b=a.get b:=λb _ w=>ap.get b dz;have aA:=s.mono (au _) (au _) dv;simp[aN];refine iq HD dA ⟨d,z,T,a6⟩ ⟨rfl,⟨.inr aA.ga,.inr aA.gb,aA.el.imp λ_ _ p=>p.1,λe h he an=> ?_⟩,ea,by have:=tb.rl;simp only;omega,by have:=tb.tl;simp only;omega,λl hl=>by have:=(tb.tn l hl).1;omega⟩ ?_
 ·rcases he with rfl|rfl|he
  ·have:=(s.ba h an).2.1;omega
  ·have:=(s.bb h an).2;omega
  ·obtain⟨l,p,k⟩:=s.el.left he;have:=(k h an).2.1;omega
 rintro _ g ⟨a1,n,es1,rfl,bT,x⟩;simp only at bT;have eD:=x.ok.sz;have b7:=(x.get _ dz).trans b6;have A:=(x.get _ dz).trans aN;have b8:=(x.get _ dz).trans U;have bH:Nb a (dY g (a.size+1) (dG 4 1 [.agg [dE d.pC,a1,n,dE d.dO]])):=(ap.trans x).put A dz _;have ef:=bT.mono (lo':=a.size+1+1+1) (hi':=(dY g (a.size+1) (dG 4 1 [.agg [dE d.pC,a1,n,dE d.dO]])).size) (h':=dY g (a.size+1) (dG 4 1 [.agg [dE d.pC,a1,n,dE d.dO]])) dz dA λb w _=>by rw[dP A,ao dz]
 have eC:ig 0 g:=⟨x.ok.hp,x.ok.low,aw _⟩;have b9:(dY g (a.size+1) (dG 4 1 [.agg [dE d.pC,a1,n,dE d.dO]])).get a.size=_:=(show(dY g (a.size+1) (dG 4 1 [.agg [dE d.pC,a1,n,dE d.dO]])).get a.size=g.get a.size by rw[dP A,ao dz]).trans b7;have ca:(dY g (a.size+1) (dG 4 1 [.agg [dE d.pC,a1,n,dE d.dO]])).get (a.size+1)=_:=(dP A _ _).trans (aq rfl);have aX:(dY g (a.size+1) (dG 4 1 [.agg [dE d.pC,a1,n,dE d.dO]])).get (a.size+1+1)=_:=(show(dY g (a.size+1) (dG 4 1 [.agg [dE d.pC,a1,n,dE d.dO]])).get (a.size+1+1)=g.get (a.size+1+1)by rw[dP A,ao dz]).trans b8;simp[Bn,A,dZ];generalize dY g (a.size+1) _=eu at*
 refine fy (b.jl.length+1) dz (λO y h'=>∃q G I V R,SeS b d S a h' q G I V R/\dH y 2 (.ptr a.size 0 0 0)/\dH y 3 (.ptr (a.size+1) 0 0 0)/\dH y 4 (.ptr (a.size+1+1) 0 0 0)/\dH y 6 (dE O)) ?_ ?_ dz ?_
 ·rintro O y h' ey cX ⟨q,G,I,V,R,⟨aE,o,di,B,C,f,m,al⟩,E,F,u,K⟩;have D:∀c,(dY h' (a.size+1+1) c).get (a.size+1+1)=some c:=λc=>(dP f c _).trans (aq rfl);have bS:ig 0 h':=⟨o.ok.hp,o.ok.low,aw _⟩;simp[E,F,K,B,C,show(O:Int)<=b.jl.length by omega];refine ee (λM=> ?_) (λM=> ?_)
  ·simp[u,f,D,dZ];exact C2 ok (o.put f dz _)
  simp at M;obtain⟨Y,L⟩:∃Y:Nat,q.pC=Y:=⟨q.pC.toNat,dz⟩;have c6:Y<b.jl.length:=dz;have ds:(a.size=h'.size)=False:=dB;have bB:(a.size+1=h'.size)=False:=dB;have bC:(a.size+1+1=h'.size)=False:=dB;have c7:=bS.low;simp[E,F,B,C,L,c6,c7,wN];generalize b.jl[Y]=h at*
  have eB:=o.cons (dG 6 1 [h.t]);have eh:U6 S q:=⟨by have:=m.rl;have:=tb.rl;omega,by have:=m.tl;have:=tb.rl;omega,m.tn⟩;have et:∀c,((dY h' (a.size+1+1) c).cons (dG 6 1 [h.t])).get (a.size+1+1)=some c:=λc=>by rw[dV,ao dB];exact D c
  refine ee (λX=> ?_) (λX=> ?_)
  ·have ce:∀c:iZ,∀b,a.size+1+1+1<=b->b<h'.size->((dY h' (a.size+1+1) c).cons (dG 6 1 [h.t])).get b=h'.get b:=λc b ec av=>by rw[dV,ao dB,dP f,ao dz]
   simp[F,u,C,f,bB,bC,L,D,dZ,show a.size+1+1<h'.size by omega];have:=UV (i:=⟨b,d,z,T,a6,bz,bn,S⟩) (args:=[b.t,Bn d z T]) (ok:=true) ok ((o.put f dz (dG 4 1 [.agg [dE q.pC,G,I,dE q.dO]])).cons (dG 6 1 [h.t])) (λb w=>(show a.size<=b from w)) ((aE.mono (au _) (au _) (ce _)).fz (λb=>a.size<=b) λb p _=>by omega) eh (.inl al);rw[L]at this;exact this
  simp at X;have bp:1<=h.op/\h.op<=5:=by unfold wj at X;simpa using X
  have c9:decide ((O:Int)=b.jl.length)=decide (O=b.jl.length):=by rw[decide_eq_decide];omega
  simp[E,K,B,ds,c9];refine ee (λde=> ?_) (λde=> ?_)
  ·simp[u,f,bC,dZ,D,show a.size+1+1<h'.size by omega];exact C2 ok ((o.put f dz _).cons _)
  simp[F,C,bB,L];have eo:=aE.mono (h':=h'.cons (dG 6 1 [h.t])) (au _) (au _) λb _ p=>by rw[dV,ao dz]
  refine iq OW dA ⟨h,q,G,I,V,a.size+1+1+1,h'.size,S⟩ ⟨by simp[Bn,L],eo,dA,bS.cons _,bp.1,bp.2,⟨rfl,by have:=m.rl;have:=m.tl;simp only;omega,m.tn⟩,by have:=tb.rl;have:=m.rl;simp only;omega,bi⟩ ?_;rintro _ j ⟨Q,a2,ae,wU,eb,rfl,bX,a7,P,a8⟩;simp only[ZY]at bX a7 P a8;have eE:=P.sz;have W:∀b,b<a.size+1+1+1->j.get b=h'.get b:=λb p=>(a7 b dz (.inl p)).trans (by rw[dV,ao dz]);have dk:=(W a.size dz).trans B;have N:=(W (a.size+1) dz).trans C;have Z:=(W (a.size+1+1) dz).trans f;have eA:(a.size=j.size)=False:=dB;have dm:(a.size+1=j.size)=False:=dB;have dn:(a.size+1+1=j.size)=False:=dB;have bN:Nb a j:=⟨⟨P.hp,P.low,dz⟩,λb p=>(W b dz).trans (o.get b p)⟩;have cb:∀c,(dY j (a.size+1+1) c).get (a.size+1+1)=some c:=λc=>(dP Z c _).trans (aq rfl);simp[Bn,P.low,dZ];cases eb with
  |false=>
   simp[u,Z,dn,dZ,cb,show a.size+1+1<j.size by omega];exact C2 ok ((bN.put Z dz _).cons _)
  |true=>
   obtain⟨t2,er⟩:=a8 rfl;simp[E,F,u,K,N,dm,dZ,cX,show a.size+1<j.size by omega];have e:∀b,b<a.size+1+1+1->b≠a.size+1->((dY j (a.size+1) (dG 4 (R+1) [.agg [dE Q.pC,a2,ae,dE Q.dO]])).cons (dG 4 1 [.agg [dE Q.pC,a2,ae,dE Q.dO]])).get b=j.get b:=λb ec av=>by rw[dV,ao dB,dP N,ao av]
   refine⟨Q,a2,ae,wU,R+1,bX.mono (au _) dA λb p av=> ?_,(bN.put N dz _).cons _,dB,(e _ dz dz).trans dk,?_,(e _ dz dz).trans Z,⟨by rw[t2.rl];exact m.rl,by rw[t2.tl];exact m.rl,t2.tn⟩,by rw[er];exact al⟩
   ·rw[dV,ao dB,dP N,ao dz]
   ·rw[dV,ao dB,dP N,aq rfl]
 ·rintro y h' ⟨q,G,I,V,R,⟨aE,o,di,B,C,f,m,al⟩,E,F,u,K⟩;have D:∀c,(dY h' (a.size+1+1) c).get (a.size+1+1)=some c:=λc=>(dP f c _).trans (aq rfl);have c1:((b.jl.length:Int)+1<=b.jl.length)=False:=dB;simp[E,u,K,B,f,D,dZ,c1];exact C2 ok (o.put f dz _)
 ·simp;exact⟨d,a1,n,es1,1,ef,bH,by have:=bH.ok.sz;have:=H.ew aX;omega,b9,ca,aX,⟨rfl,dz,tb.tn⟩,rfl⟩
end
end Go.Proofs.YtmaeadedikngoaaGreatDoor
