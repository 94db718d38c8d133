/- Texts W07d to W07e. -/
import Derived.Test.YtmaeadedikngoaaGreatDoorA25
import Derived.Test.YtmaeadedikngoaaGreatDoorA28
set_option linter.all false
set_option maxRecDepth 100000
set_option maxHeartbeats 8000000
namespace Go.Proofs.YtmaeadedikngoaaGreatDoor
noncomputable section
open Go Go.TI
attribute [-simp] List.map_take List.map_drop List.map_append fH fh ej Bool.not_or Bool.not_and
attribute [simp] fG fj
attribute [-simp] size_cons
structure Tu where
 (i:fU) (s:ez) (a b:T) (es:List T) (lo hi N:Nat)
structure TOk(N r:Nat)(s:ez):Prop where
 rl:s.iS.length=r
 tl:s.kc.length=r
 tn:∀l∈s.kc,Tn N l
def N9(c:Tu)(e:List T)(d:H):Prop:=e=[c.i.t,Bd c.s c.a c.b]/\AS c.lo c.hi d c.a c.b c.es c.s/\c.hi<=d.size/\ij 0 d/\1<=c.i.op/\c.i.op<=5/\TOk c.N c.s.iS.length c.s/\c.s.iS.length<=1000/\c.N<=1000000
def KM(a:Tu)(k:List T)(e:H)(j:T)(c:H):Prop:=∃d f g i h,j= .tuple [Bd d f g,.bool h]/\AS a.lo c.size c f g i d/\(∀b,b<e.size->(b<a.lo\/a.hi<=b)->c.get b=e.get b)/\ij e.size c/\(h=true->TOk a.N a.s.iS.length d/\d.dS=a.s.dS)
def AS.mono{g f lo' hi':Nat}{k h':H}{h i:T}{j:List T}{l:ez}(c:AS g f k h i j l)(hl:lo'<=g)(n:f<=hi')(e:∀a,g<=a->a<f->h'.get a=k.get a):AS lo' hi' h' h i j l:=
 ⟨c.ga.mono λa b=>e a (c.ba a b).1 (c.ba a b).2.1,c.gb.mono λa b=>e a (c.bb a b).1 (c.bb a b).2,c.el.imp λm o d=>⟨d.1.mono λa b=>e a (d.2 a b).1 (d.2 a b).2.1,λa b=>⟨by have:=(d.2 a b).1;omega,by have:=(d.2 a b).2.1;omega,(d.2 a b).2.2⟩⟩,λa b=>⟨by have:=(c.ba a b).1;omega,by have:=(c.ba a b).2.1;omega,(c.ba a b).2.2⟩,λa b=>⟨by have:=(c.bb a b).1;omega,by have:=(c.bb a b).2;omega⟩⟩
def AS.same{h g:Nat}{f:H}{c d:T}{e:List T}{b s':ez}(a:AS h g f c d e b)(i:s'.iS=b.iS)(j:s'.kc=b.kc):AS h g f c d e s':=⟨by rw[i];exact a.ga,a.gb,by rw[j];exact a.el,a.ba,a.bb⟩
def AS.zero(e d:Nat)(c:H):AS e d c dH dH [] ⟨0,[],[],0⟩:=⟨Gr.nil _ _,Gr.nil _ _,.nil,λb a=>by simp at a,λb a=>by simp at a⟩
def OL:(jF Tu N9 KM).Ok Tryz.prog cx 208:=by
 refine jv (tb:=⟨pt [(97,mT),(234,xK.jx),(233,Hh.jx),(235,Ez.jx)],ht [(155,jF IUn N8 Jc)]⟩) fc fa (je 9904163146420522906957187071 [(20,[(2,4),(2,6),(2,7),(2,8)]),(10,[(2,4),(2,6),(2,7),(2,8),(2,10),(2,12),(2,13),(2,14)]),(22,[(1,11),(3,11),(5,11),(7,11),(5,13),(7,13)])] Tryz.func208) (λ_ _=>100) (λi Y g fb=>by obtain⟨rfl,_⟩:=fb;simp[Tryz.f208]) ?_;rintro⟨i,j,Y,Z,Q,dn,e8,N⟩ _ g ⟨rfl,h,e7,cy,fe,fi,w,hr,e4⟩ l c7;simp only at h e7 fe fi w hr e4;simp[Bd]at c7;obtain⟨eX,e0⟩:=c7;simp[Tryz.f208,eX,e0,uS];generalize R:(((TI.hr g).cons _).cons _).cons _=q;have F:ij 0 q:=by rw[<-R];exact((cy.hr.cons _).cons _).cons _
 have gm:q.size=g.size+1+1+1:=by rw[<-R];rfl
 have av:Nb g q:=by rw[<-R];exact⟨((((Nb.refl cy.hr).cons _).cons _).cons _).ok,λd f=>(((((Nb.refl cy.hr).cons _).cons _).cons _).get d f).trans (gF g d)⟩
 have O:q.get g.size=some (dI 6 0 [i.t]):=by rw[<-R];simp
 have P:q.get (g.size+1)=some (dI 4 0 [.agg [dG j.pC,Y,Z,dG j.dS]]):=by rw[<-R];simp
 have aA:q.get (g.size+1+1)=some (dI 4 0 [.agg [dG 0,dH,dH,dG 0]]):=by rw[<-R];simp
 clear R;have dm:=h.ga.len (cx:=cx) q Ru _ rfl;rw[aG]at dm;have eW:∀y,(d8 q (g.size+1+1) y).get (g.size+1+1)=some y:=λy=>(dQ aA y _).trans (aq rfl);have gE:=BV i;refine fI (iU i).length dB (λU l h'=>q=h'/\dJ l 2 (.ptr g.size 0 0 0)/\dJ l 3 (.ptr (g.size+1) 0 0 0)/\dJ l 4 (.ptr (g.size+1+1) 0 0 0)/\dJ l 6 (sl (gD (iU i)))/\dJ l 7 (dG U)/\∀E∈(iU i).take U,0<=E/\E<j.iS.length) ?_ ?_ dB dC
 ·rintro U l _ ap e5 ⟨rfl,r,s,A,bp,bs,D⟩;have fl:(iU i).take (U+1)=(iU i).take U++[(iU i)[U]]:=aW ap;simp[s,bp,bs,ap,P,dm];generalize(iU i)[U]=E at*
  refine em (λbi=> ?_) (λbi=> ?_)
  ·simp[A,aA,eW,ed];refine⟨⟨0,[],[],0⟩,_,_,_,false,rfl,AS.zero _ _ _,λd f _=> ?_,⟨(F.put _ _).out g|>.hp,(F.put _ _).out g|>.low,dD⟩,dC⟩;rw[fQ,dQ aA,ao dB];exact av.get d f
  ·simp at bi;simp[r,s,A,bp,bs,e5,fl];intro x cb;rcases cb with cb|rfl
   ·exact D x cb
   ·omega
 ·rintro l _ ⟨rfl,r,s,A,bp,bs,D⟩;rw[aL]at D;simp[r,bp,bs,O];have bN:oX q 1 Y (gD j.iS):= .inr (h.ga.mono λd f=>av.get d (by have:=(h.ba d f).2.1;omega));have bS:oX q 1 Z Q:= .inr (h.gb.mono λd f=>av.get d (by have:=(h.bb d f).2;omega));have bH:∀E:Int,0<=E->E<j.iS.length->∃u e,j.kc[E.toNat]? =some u/\Q[E.toNat]? =some e/\oX q 1 e (gD u)/\Tn N u:=λE r0 r1=>by
   have ap:E.toNat<j.kc.length:=by have:=w.tl;omega
   obtain⟨e,bB,k⟩:=h.el.get (aB ap);exact⟨_,e,aB ap,bB,k.1.mono λd f=>av.get d (by have:=(k.2 d f).2.1;omega),w.tn _ (aC ap)⟩
  refine lq (λl C=>∃(v:Int) (eu:T) (X:T) (W:List Int),EM eu/\Nb q C/\oX C 1 X (gD W)/\Tn N W/\jt i.a j.iS.length=true/\dJ l 2 (.ptr g.size 0 0 0)/\dJ l 3 (.ptr (g.size+1) 0 0 0)/\dJ l 4 (.ptr (g.size+1+1) 0 0 0)/\dJ l 8 (dG v)/\dJ l 9 eu/\dJ l 10 X) (λbi=> ?_) (λbi=> ?_) ?_
  ·simp[r,s,A,O,P,aA,ed,m6,F.hp,gm];refine⟨{j with pC:=i.a},Y,Z,Q,true,rfl,(h.mono (au _) dD λd _ f=> ?_).same rfl rfl,λd f _=> ?_,⟨(((F.put _ _).put _ _).out g).hp,(((F.put _ _).put _ _).out g).low,dD⟩,λ_=>⟨⟨rfl,w.tl,w.tn⟩,rfl⟩⟩
   all_goals (rw[fQ,m6 (by simpa using F.hp) dD,ao dB,dQ P,ao dB];exact av.get d dB)
  ·have gz:¬i.op=5:=by simpa using bi
   have f:i.op=1\/i.op=2\/i.op=3\/i.op=4:=dB;rcases f with e|e|e|e
   ·have I:=D i.a (by unfold iU;simp[e]);simp[r,s,A,O,e];exact⟨_,_,⟨_,rfl⟩,Nb.refl F,_,[],.inr (Gr.nil _ _),Tn.nil N,fw.2 ⟨I.1,dB⟩,rfl,rfl,rfl⟩
   ·have I:=D i.a (by unfold iU;simp[e]);have B:=D i.b (by unfold iU;simp[e]);obtain⟨p1,aE,aN⟩:=bN.idx (te:=GE) rfl rfl (i:=i.b.toNat) (x:= dG j.iS[i.b.toNat]) (by simp[show i.b.toNat<j.iS.length by omega]) rfl;obtain⟨u,X,hl,bk,M,K⟩:=bH i.b B.1 B.2;obtain⟨p2,aX,a6⟩:=bS.idx (te:=nL) rfl rfl bk M.im.2;simp[r,s,A,O,P,e,eQ B.1,aE,aN,aX,a6];exact⟨_,_,⟨_,rfl⟩,Nb.refl F,_,u,M,K,fw.2 ⟨I.1,dB⟩,rfl,rfl,rfl⟩
   ·have I:=D i.a (by unfold iU;simp[e]);have B:=D i.b (by unfold iU;simp[e]);obtain⟨p1,aE,aN⟩:=bN.idx (te:=GE) rfl rfl (i:=i.b.toNat) (x:= dG j.iS[i.b.toNat]) (by simp[show i.b.toNat<j.iS.length by omega]) rfl;obtain⟨u,X,hl,bk,M,K⟩:=bH i.b B.1 B.2;obtain⟨p2,aX,a6⟩:=bS.idx (te:=nL) rfl rfl bk M.im.2;obtain⟨_,⟨o,rfl⟩,b8⟩:=xK.use i.n trivial;obtain⟨_,⟨gj,fA,rfl⟩,a7⟩:=Hh.use (o,j.iS[i.b.toNat]) trivial;simp only at a7;simp[r,s,A,O,P,e,eQ B.1,aE,aN,aX,a6,b8,a7];exact⟨_,_,⟨_,rfl⟩,Nb.refl F,_,u,M,K,fw.2 ⟨I.1,dB⟩,rfl,rfl,rfl⟩
   ·have I:=D i.a (by unfold iU;simp[e]);have B:=D i.b (by unfold iU;simp[e]);have ca:=D i.c (by unfold iU;simp[e]);obtain⟨p1,aE,aN⟩:=bN.idx (te:=GE) rfl rfl (i:=i.b.toNat) (x:= dG j.iS[i.b.toNat]) (by simp[show i.b.toNat<j.iS.length by omega]) rfl;obtain⟨p3,eD,eE⟩:=bN.idx (te:=GE) rfl rfl (i:=i.c.toNat) (x:= dG j.iS[i.c.toNat]) (by simp[show i.c.toNat<j.iS.length by omega]) rfl;obtain⟨u,X,hl,bk,M,K⟩:=bH i.b B.1 B.2;obtain⟨l2,gk,gB,fo,ea,et⟩:=bH i.c ca.1 ca.2;obtain⟨p2,aX,a6⟩:=bS.idx (te:=nL) rfl rfl bk M.im.2;obtain⟨p4,eF,eH⟩:=bS.idx (te:=nL) rfl rfl fo ea.im.2;obtain⟨_,⟨o,rfl⟩,b8⟩:=xK.use i.n trivial;obtain⟨_,⟨gj,fA,rfl⟩,a7⟩:=Ez.use (o,j.iS[i.b.toNat],j.iS[i.c.toNat]) trivial;simp only at a7;simp[r,s,O,P,e,eQ B.1,eQ ca.1,aE,aN,aX,a6,eD,eE,eF,eH,b8,a7];refine iu Hg dC ⟨u,l2,X,gk⟩ ⟨rfl,M,ea,by have:=K.1;have:=et.1;simp only;omega,F⟩ ?_;rintro E C ⟨gg,J,_⟩;simp[r,s,A];exact⟨_,_,⟨_,rfl⟩,J,_,_,gg,K.union et,fw.2 ⟨I.1,dB⟩,rfl,rfl,rfl⟩
  ·rintro l C ⟨v,_,X,W,⟨fB,rfl⟩,J,gd,K,I,r,s,A,c4,c6,c1⟩;have bT:=(J.get _ dB).trans O;have b6:=(J.get _ dB).trans P;have cX:=(J.get _ dB).trans aA;have hb:=J.ok.sz;obtain⟨b9,p,b7,⟨gQ,gv,gA⟩,gZ,bn,L⟩:=lP (cx:=cx) (⟨J.ok.hp,J.ok.low,aw _⟩:ij 0 C) kz rfl mM kz rfl rfl dC gd.ji (by simp[T.cells]) (by have:=K.1;simp;omega);have S:=fw.1 I;have V:Nb g p:=⟨⟨L.hp,L.low,dB⟩,λd f=>(bn d dB).trans ((J.get d dB).trans (av.get d f))⟩;have gn:=(bn _ dB).trans bT;have eB:=(bn _ dB).trans b6;have eC:=(bn _ dB).trans cX;obtain⟨m,gp,gS,gw,gX,a8,c9,al,dd⟩:=(h.ga.mono (h':=p) λd f=>V.get d (by have:=(h.ba d f).2.1;omega)).JG (te:=GE) rfl (i:=i.a.toNat) (by simpa using S.2);obtain⟨z,eI,gV,gy,gY,an,e6,bz,de⟩:=(h.gb.mono (h':=p) λd f=>V.get d (by have:=(h.bb d f).2;omega)).JG (te:=nL) rfl (i:=i.a.toNat) (by rw[h.el.length,w.tl];exact S.2);simp at b7;have bC:=(h.ba m a8).2.2;have dk:¬m=z:=λk=>bC (by rw[k];exact an);have ds:=H.eJ al;have fv:=H.eJ bz;have dv:=(h.ba m a8);have gP:=(h.bb z an);have gI:=dv.1;have gM:=dv.2.1;obtain⟨e,bB,fY⟩:=h.el.get (aB (show i.a.toNat<j.kc.length by rw[w.tl];exact S.2));have eo:=BQ (x:= .arr C.size b9 0 W.length false) fY.1.na;have fs:Q[i.a.toNat]'(by rw[h.el.length,w.tl];exact S.2)=e:=by rw[aB (by rw[h.el.length,w.tl];exact S.2)]at bB;simpa using bB
   rw[fs]at de;have er:∀x:Int,ml (dG x) 0 [dG v]=some (dG v):=λx=>rfl;have cL:∀d,d<C.size->ff (C.cons (dI 1 0 [])) p d=true:=λd f=>fk ((bn d f).trans (by rw[dW,ao dB]));have eb:=cL g.size dB;have ec:=cL (g.size+1) dB;have ef:=mR al (show g.size≠m by omega);have eh:=mR al (show g.size+1≠m by omega);have gi:=mR al (show z≠m by omega);have eL:(g.size+1=m)=False:=dD;have eM:(g.size+1=z)=False:=dD;have eN:(g.size+1+1=m)=False:=dD;have eO:(g.size+1+1=z)=False:=dD;have eP:(z=m)=False:=dD;have l1:g.size+1<p.size:=dB;have l2:g.size+1+1<p.size:=dB;have di:Z= .arr z eI 0 Q.length false:=by
    obtain⟨_,_,_,_,k,e⟩:=(h.gb.mono (h':=p) λd f=>V.get d (by have:=(h.bb d f).2;omega)).box an;rw[bz]at k;simp at k;rw[e,k.1]
   have e9:i.a.toNat<Q.length:=by rw[h.el.length,w.tl];exact S.2
   simp at dd;simp[r,s,A,c4,c6,c1,bT,b6,b7,eQ S.1,c9,di,e9,al,bz,eB,eC,dd,de,er,eo,eb,ec,ef,eh,m6,L.hp,ds,fv,eL,eM,eN,eO,eP,l1,l2,ed,oh];clear b7 cL eb ec ef eh gi bT b6 cX r s A c4 c6 c1 eo er c9 e6;have eS:=h.ga.mono (h':=p) λd f=>V.get d (by have:=(h.ba d f).2.1;omega);have eV:=h.gb.mono (h':=p) λd f=>V.get d (by have:=(h.bb d f).2;omega);rw[<-di];generalize bu:d8 (d8 (d8 (d8 p m _) z _) (g.size+1) _) (g.size+1+1) _=ae;have ha:ae.size=p.size:=by rw[<-bu];simp
   have Jp:ij 0 ae:=by rw[<-bu];exact(((L.put _ _).put _ _).put _ _).put _ _
   have G:∀d,ae.get d=if d=g.size+1+1 then _ else if d=g.size+1 then _ else if d=z then _ else if d=m then _ else p.get d:=λd=>by
    rw[<-bu,m6 (by simpa using L.hp) dD,m6 (by simpa using L.hp) dD,m6 (by simpa using L.hp) dD,m6 L.hp ds]
   clear bu;have Go:∀d,d≠g.size+1+1->d≠g.size+1->d≠z->d≠m->ae.get d=p.get d:=λd fC fE fL fS=>by rw[G,ao fC,ao fE,ao fL,ao fS]
   have eR:=eS.setAt a8 al i.a.toNat (dG v) (h':=ae) (by rw[G,ao dB,ao dB,ao dB,aq rfl]);have eU:=eV.setAt an bz i.a.toNat (.arr C.size b9 0 W.length false) (h':=ae) (by rw[G,ao dB,ao dB,aq rfl]);have ey:∀d,dU Y=some d->d=m:=λd f=>by rw[a8]at f;simpa using f.symm
   have eA:∀d,dU Z=some d->d=z:=λd f=>by rw[an]at f;simpa using f.symm
   refine⟨⟨IntKind.i64.wrap (j.pC+1),j.iS.set i.a.toNat v,j.kc.set i.a.toNat W,j.dS⟩,Y,Z,Q.set i.a.toNat (.arr C.size b9 0 W.length false),fB,rfl,⟨?_,?_,?_,λd f=> ?_,λd f=> ?_⟩,λd f hr=> ?_,⟨(Jp.out g).hp,(Jp.out g).low,dD⟩,λ_=>⟨⟨dC,by simp;exact w.tl,λu hl=> ?_⟩,rfl⟩⟩
   ·have:=eR.out g;simpa[gD,bW]using this
   ·exact eU.out g
   ·refine h.el.set i.a.toNat ⟨.inr ?_,λd f=> ?_⟩ λe u k=>⟨k.1.mono λd f=> ?_,λd f=> ?_⟩
    ·have:=Gr.new ((Go C.size dB dB dB dB).trans gA);simpa using this.out g
    ·simp at f;subst f;exact⟨by show dn<=_;omega,dD,λk=>by have:=ey _ k;omega,λk=>by have:=eA _ k;omega⟩
    ·obtain⟨bC,dk,ce,cp⟩:=k.2 d f;rw[fQ,Go d dB dB (λk=>cp (by rw[k];exact an)) (λk=>ce (by rw[k];exact a8))];exact V.get d dB
    ·obtain⟨bC,dk,ce,cp⟩:=k.2 d f;exact⟨bC,dD,ce,cp⟩
   ·have:=h.ba d f;exact⟨this.1,dD,this.2.2⟩
   ·have:=h.bb d f;exact⟨this.1,dD⟩
   ·have hr:d<dn\/e8<=d:=hr;rw[fQ,Go d dB dB dB dB];exact V.get d f
   ·rcases bZ hl with k|rfl
    ·exact w.tn u k
    ·exact K
structure Xq where
 (c:fZ) (s:ez) (a b:T) (es:List T) (lo hi N:Nat)
structure UQ(N:Nat)(s:ez):Prop where
 rl:s.iS.length<=1000
 tl:s.kc.length<=1000
 tn:∀l∈s.kc,Tn N l
def Oa(d:Xq)(f:List T)(e:H):Prop:=f=[d.c.t,Bd d.s d.a d.b]/\AS d.lo d.hi e d.a d.b d.es d.s/\d.hi<=e.size/\ij 0 e/\UQ d.N d.s/\d.N<=1000000/\d.c.jk.length<=10000001
def B4(e:Xq)(h:List T)(c:H)(g:T)(d:H):Prop:=∃a f,g= .tuple [a.t,.bool f]/\UQ e.N a/\(a.dS=e.s.dS\/a.dS=0)/\d.size=c.size/\(∀b,b<c.size->d.get b=c.get b)/\ij 0 d
def HQ(d:List Int):∀a∈gD d,cn a=a/\jW a=true/\∀b,a≠ .agg b:=λa c=>by obtain⟨e,_,rfl⟩:=List.mem_map.1 c;simp
def AS.fz{o m:Nat}{h:H}{g l:T}{p:List T}{e:ez}(c:AS o m h g l p e)(k:Nat->Prop)(i:∀a,o<=a->a<m->k a):iG (FT h k 3) [dG e.pC,g,l,dG e.dS] e.cs:=
 .cons (f9 ..) (.cons ((show oX h 1 g (gD e.iS)from .inr c.ga).ft (d:=1) (HQ _) λa b=>i a (c.ba a b).1 (c.ba a b).2.1)
  (.cons (c.gb.ft (λa b=>i a (c.bb a b).1 (c.bb a b).2) (c.el.VT (f:=λn=>sl (gD n)) λq n j=>j.1.ft (d:=0) (HQ _) λa b=>i a (j.2 a b).1 (j.2 a b).2.1)) (.cons (f9 ..) .nil)))
def UG{i:Xq}{args:List T}{b d:H}{e:List T}{s':ez}{ok:Bool}{V:Nat->Prop}(o:ij 0 b)(a:Nb b d)(l:∀c,V c->b.size<=c)(k:iG (FT d V 3) e s'.cs)(q:UQ i.N s')(n:s'.dS=i.s.dS\/s'.dS=0):yf b (.tuple [.agg e,.bool ok]) d (B4 i args b):=by
 obtain⟨p,h,j⟩:=FT.tup dB l k ok;refine⟨a.ok.hp,a.ok.sz,λc r m _=> .inl (a.get c m),p,h,s',ok,by rw[j];rfl,q,n,rfl,λg f=>(yW a.ok.hp a.ok.sz f).trans (a.get g f),o.cut a.ok.hp a.ok.sz⟩
def KA:ez:=⟨0,[],[],0⟩
def CS{d:Xq}{c:List T}{a b:H}(f:ij 0 a)(e:Nb a b):yf a (.tuple [.agg [dG 0,dH,dH,dG 0],.bool false]) b (B4 d c a):=
 UG (s':=KA) (V:=λ_=>False) f e (λ_ g=>g.elim) (.cons (f9 ..) (.cons (jh ..) (.cons (jh ..) (.cons (f9 ..) .nil)))) ⟨by simp[KA],by simp[KA],by simp[KA]⟩ (.inr rfl)
structure SeS(c:fZ)(s:ez)(N:Nat)(h h':H)(s':ez)(a' b':T)(es':List T)(ver:Nat):Prop where
 tx:AS (h.size+1+1+1) h'.size h' a' b' es' s'
 nb:Nb h h'
 hz:h.size+1+1+1<=h'.size
 g2:h'.get h.size=some (dI 2 0 [c.t])
 g3:h'.get (h.size+1)=some (dI 4 ver [.agg [dG s'.pC,a',b',dG s'.dS]])
 g4:h'.get (h.size+1+1)=some (dI 4 0 [.agg [dG 0,dH,dH,dG 0]])
 to:TOk N s.iS.length s'
 ev:s'.dS=s.dS
def OM:(jF Xq Oa B4).Ok Tryz.prog cx 164:=by
 refine qJ (tb:=⟨pt [(206,uA)],ht [(207,jF ICp Oe Jf),(208,jF Tu N9 KM)]⟩) fc fa (je 1182933510117985879039 [] Tryz.func164) (λz a=>10000005) (λi z a dd=>by obtain⟨rfl,_⟩:=dd;simp[Tryz.f164]) ?_;rintro⟨b,d,z,T,a6,bz,bn,S⟩ _ a ⟨rfl,s,c4,ok,tb,bi,w⟩ y bk;simp only at s c4 tb bi w;simp[Bd]at bk;obtain⟨cL,J⟩:=bk;have bs:=λJ:H=>s.ga.len (cx:=cx) J Ru _ rfl;have bu:=λJ:H=>s.gb.len (cx:=cx) J NA _ rfl;rw[aG]at bs;rw[s.el.length]at bu;simp[Tryz.f164,cL,J,bs,bu];generalize v:(((TI.hr a).cons _).cons _).cons _=r;have ea:ij 0 r:=by rw[<-v];exact((ok.hr.cons _).cons _).cons _
 have eF:r.size=a.size+1+1+1:=by rw[<-v];rfl
 have ap:Nb a r:=by rw[<-v];exact⟨((((Nb.refl ok.hr).cons _).cons _).cons _).ok,λb w=>(((((Nb.refl ok.hr).cons _).cons _).cons _).get b w).trans (gF a b)⟩
 have b7:r.get a.size=some (dI 2 0 [b.t]):=by rw[<-v];simp
 have aN:r.get (a.size+1)=some (dI 4 0 [.agg [dG d.pC,z,T,dG d.dS]]):=by rw[<-v];simp
 have U:r.get (a.size+1+1)=some (dI 4 0 [.agg [dG 0,dH,dH,dG 0]]):=by rw[<-v];simp
 clear v;have cy:∀c,(d8 r (a.size+1+1) c).get (a.size+1+1)=some c:=λc=>(dQ U c _).trans (aq rfl);refine em (λM=> ?_) (λM=> ?_)
 ·simp[U,cy,ed];exact CS ok (ap.put U dB _)
 simp at M;have dv:∀b,bz<=b->b<bn->r.get b=a.get b:=λb _ w=>ap.get b dB;have aA:=s.mono (au _) (au _) dv;simp[aN];refine iu Hv dC ⟨d,z,T,a6⟩ ⟨rfl,⟨.inr aA.ga,.inr aA.gb,aA.el.imp λ_ _ p=>p.1,λe h he an=> ?_⟩,ea,by have:=tb.rl;simp only;omega,by have:=tb.tl;simp only;omega,λl hl=>by have:=(tb.tn l hl).1;omega⟩ ?_
 ·rcases he with rfl|rfl|he
  ·have:=(s.ba h an).2.1;omega
  ·have:=(s.bb h an).2;omega
  ·obtain⟨l,p,k⟩:=s.el.left he;have:=(k h an).2.1;omega
 rintro _ g ⟨a1,n,es1,rfl,bT,x⟩;simp only at bT;have eD:=x.ok.sz;have b8:=(x.get _ dB).trans b7;have A:=(x.get _ dB).trans aN;have b9:=(x.get _ dB).trans U;have bH:Nb a (d8 g (a.size+1) (dI 4 1 [.agg [dG d.pC,a1,n,dG d.dS]])):=(ap.trans x).put A dB _;have ef:=bT.mono (lo':=a.size+1+1+1) (hi':=(d8 g (a.size+1) (dI 4 1 [.agg [dG d.pC,a1,n,dG d.dS]])).size) (h':=d8 g (a.size+1) (dI 4 1 [.agg [dG d.pC,a1,n,dG d.dS]])) dB dC λb w _=>by rw[dQ A,ao dB]
 have eC:ij 0 g:=⟨x.ok.hp,x.ok.low,aw _⟩;have ca:(d8 g (a.size+1) (dI 4 1 [.agg [dG d.pC,a1,n,dG d.dS]])).get a.size=_:=(show(d8 g (a.size+1) (dI 4 1 [.agg [dG d.pC,a1,n,dG d.dS]])).get a.size=g.get a.size by rw[dQ A,ao dB]).trans b8;have cb:(d8 g (a.size+1) (dI 4 1 [.agg [dG d.pC,a1,n,dG d.dS]])).get (a.size+1)=_:=(dQ A _ _).trans (aq rfl);have aX:(d8 g (a.size+1) (dI 4 1 [.agg [dG d.pC,a1,n,dG d.dS]])).get (a.size+1+1)=_:=(show(d8 g (a.size+1) (dI 4 1 [.agg [dG d.pC,a1,n,dG d.dS]])).get (a.size+1+1)=g.get (a.size+1+1)by rw[dQ A,ao dB]).trans b9;simp[Bd,A,ed];generalize d8 g (a.size+1) _=eu at*
 refine fI (b.jk.length+1) dB (λO y h'=>∃q G I V R,SeS b d S a h' q G I V R/\dJ y 2 (.ptr a.size 0 0 0)/\dJ y 3 (.ptr (a.size+1) 0 0 0)/\dJ y 4 (.ptr (a.size+1+1) 0 0 0)/\dJ y 6 (dG O)) ?_ ?_ dB ?_
 ·rintro O y h' ey cX ⟨q,G,I,V,R,⟨aE,o,di,B,C,f,m,al⟩,E,F,u,K⟩;have D:∀c,(d8 h' (a.size+1+1) c).get (a.size+1+1)=some c:=λc=>(dQ f c _).trans (aq rfl);have bS:ij 0 h':=⟨o.ok.hp,o.ok.low,aw _⟩;simp[E,F,K,B,C,show(O:Int)<=b.jk.length by omega];refine em (λM=> ?_) (λM=> ?_)
  ·simp[u,f,D,ed];exact CS ok (o.put f dB _)
  simp at M;obtain⟨Y,L⟩:∃Y:Nat,q.pC=Y:=⟨q.pC.toNat,dB⟩;have c6:Y<b.jk.length:=dB;have ds:(a.size=h'.size)=False:=dD;have bB:(a.size+1=h'.size)=False:=dD;have bC:(a.size+1+1=h'.size)=False:=dD;have c7:=bS.low;simp[E,F,B,C,L,c6,c7,wM];generalize b.jk[Y]=h at*
  have eB:=o.cons (dI 6 1 [h.t]);have eh:UQ S q:=⟨by have:=m.rl;have:=tb.rl;omega,by have:=m.tl;have:=tb.rl;omega,m.tn⟩;have et:∀c,((d8 h' (a.size+1+1) c).cons (dI 6 1 [h.t])).get (a.size+1+1)=some c:=λc=>by rw[dW,ao dD];exact D c
  refine em (λX=> ?_) (λX=> ?_)
  ·have cp:∀c:iY,∀b,a.size+1+1+1<=b->b<h'.size->((d8 h' (a.size+1+1) c).cons (dI 6 1 [h.t])).get b=h'.get b:=λc b ec av=>by rw[dW,ao dD,dQ f,ao dB]
   simp[F,u,C,f,bB,bC,L,D,ed,show a.size+1+1<h'.size by omega];have:=UG (i:=⟨b,d,z,T,a6,bz,bn,S⟩) (args:=[b.t,Bd d z T]) (ok:=true) ok ((o.put f dB (dI 4 1 [.agg [dG q.pC,G,I,dG q.dS]])).cons (dI 6 1 [h.t])) (λb w=>(show a.size<=b from w)) ((aE.mono (au _) (au _) (cp _)).fz (λb=>a.size<=b) λb p _=>by omega) eh (.inl al);rw[L]at this;exact this
  simp at X;have bp:1<=h.op/\h.op<=5:=by unfold wn at X;simpa using X
  have c9:decide ((O:Int)=b.jk.length)=decide (O=b.jk.length):=by rw[decide_eq_decide];omega
  simp[E,K,B,ds,c9];refine em (λde=> ?_) (λde=> ?_)
  ·simp[u,f,bC,ed,D,show a.size+1+1<h'.size by omega];exact CS ok ((o.put f dB _).cons _)
  simp[F,C,bB,L];have eo:=aE.mono (h':=h'.cons (dI 6 1 [h.t])) (au _) (au _) λb _ p=>by rw[dW,ao dB]
  refine iu OL dC ⟨h,q,G,I,V,a.size+1+1+1,h'.size,S⟩ ⟨by simp[Bd,L],eo,dC,bS.cons _,bp.1,bp.2,⟨rfl,by have:=m.rl;have:=m.tl;simp only;omega,m.tn⟩,by have:=tb.rl;have:=m.rl;simp only;omega,bi⟩ ?_;rintro _ j ⟨Q,a2,ae,A4,eb,rfl,b6,a7,P,a8⟩;simp only[ZO]at b6 a7 P a8;have eE:=P.sz;have W:∀b,b<a.size+1+1+1->j.get b=h'.get b:=λb p=>(a7 b dB (.inl p)).trans (by rw[dW,ao dB]);have dk:=(W a.size dB).trans B;have N:=(W (a.size+1) dB).trans C;have Z:=(W (a.size+1+1) dB).trans f;have eA:(a.size=j.size)=False:=dD;have dm:(a.size+1=j.size)=False:=dD;have dn:(a.size+1+1=j.size)=False:=dD;have bN:Nb a j:=⟨⟨P.hp,P.low,dB⟩,λb p=>(W b dB).trans (o.get b p)⟩;have ce:∀c,(d8 j (a.size+1+1) c).get (a.size+1+1)=some c:=λc=>(dQ Z c _).trans (aq rfl);simp[Bd,P.low,ed];cases eb with
  |false=>
   simp[u,Z,dn,ed,ce,show a.size+1+1<j.size by omega];exact CS ok ((bN.put Z dB _).cons _)
  |true=>
   obtain⟨t2,er⟩:=a8 rfl;simp[E,F,u,K,N,dm,ed,cX,show a.size+1<j.size by omega];have e:∀b,b<a.size+1+1+1->b≠a.size+1->((d8 j (a.size+1) (dI 4 (R+1) [.agg [dG Q.pC,a2,ae,dG Q.dS]])).cons (dI 4 1 [.agg [dG Q.pC,a2,ae,dG Q.dS]])).get b=j.get b:=λb ec av=>by rw[dW,ao dD,dQ N,ao av]
   refine⟨Q,a2,ae,A4,R+1,b6.mono (au _) dC λb p av=> ?_,(bN.put N dB _).cons _,dD,(e _ dB dB).trans dk,?_,(e _ dB dB).trans Z,⟨by rw[t2.rl];exact m.rl,by rw[t2.tl];exact m.rl,t2.tn⟩,by rw[er];exact al⟩
   ·rw[dW,ao dD,dQ N,ao dB]
   ·rw[dW,ao dD,dQ N,aq rfl]
 ·rintro y h' ⟨q,G,I,V,R,⟨aE,o,di,B,C,f,m,al⟩,E,F,u,K⟩;have D:∀c,(d8 h' (a.size+1+1) c).get (a.size+1+1)=some c:=λc=>(dQ f c _).trans (aq rfl);have c1:((b.jk.length:Int)+1<=b.jk.length)=False:=dD;simp[E,u,K,B,f,D,ed,c1];exact CS ok (o.put f dB _)
 ·simp;exact⟨d,a1,n,es1,1,ef,bH,by have:=bH.ok.sz;have:=H.eJ aX;omega,ca,cb,aX,⟨rfl,dB,tb.tn⟩,rfl⟩
end
end Go.Proofs.YtmaeadedikngoaaGreatDoor
