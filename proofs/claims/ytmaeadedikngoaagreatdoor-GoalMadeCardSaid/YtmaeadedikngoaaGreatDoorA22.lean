/- Texts W07d to W08c. -/
import Derived.Test.YtmaeadedikngoaaGreatDoorA17
import Derived.Test.YtmaeadedikngoaaGreatDoorA21
set_option linter.unusedVariables false
set_option linter.unusedSimpArgs false
set_option maxRecDepth 100000
set_option maxHeartbeats 8000000
namespace Go.Proofs.YtmaeadedikngoaaGreatDoor
noncomputable section
open Go Go.TI
attribute [-simp] List.map_take List.map_drop List.map_append fi ei dT Bool.not_or Bool.not_and
attribute [simp] fh ew
attribute [-simp] size_cons
structure Q0 where
 (i:fa) (s:dK) (a b:T) (es:List T) (lo hi N:Nat)
structure TOk(N r:Nat)(s:dK):Prop where
 rl:s.iq.length=r
 tl:s.jD.length=r
 tn:∀l∈s.jD,Tn N l
def Mc(c:Q0)(e:List T)(d:H):Prop:=e=[c.i.t,zU c.s c.a c.b]/\zo c.lo c.hi d c.a c.b c.es c.s/\c.hi<=d.size/\gh 0 d/\1<=c.i.op/\c.i.op<=5/\TOk c.N c.s.iq.length c.s/\c.s.iq.length<=1000/\c.N<=1000000
def Jc(a:Q0)(k:List T)(e:H)(j:T)(c:H):Prop:=∃d f g i h,j= .tuple [zU d f g,.bool h]/\zo a.lo c.size c f g i d/\(∀b,b<e.size->(b<a.lo\/a.hi<=b)->c.get b=e.get b)/\gh e.size c/\(h=true->TOk a.N a.s.iq.length d/\d.dw=a.s.dw)
theorem zo.mono{g f lo' hi':Nat}{k h':H}{h i:T}{j:List T}{l:dK}(c:zo g f k h i j l)(hl:lo'<=g)(n:f<=hi')(e:∀a,g<=a->a<f->h'.get a=k.get a):zo lo' hi' h' h i j l:=
 ⟨c.ga.mono λa b=>e a (c.ba a b).1 (c.ba a b).2.1,c.gb.mono λa b=>e a (c.bb a b).1 (c.bb a b).2,c.el.imp λm o d=>⟨d.1.mono λa b=>e a (d.2 a b).1 (d.2 a b).2.1,λa b=>⟨by have:=(d.2 a b).1;omega,by have:=(d.2 a b).2.1;omega,(d.2 a b).2.2⟩⟩,λa b=>⟨by have:=(c.ba a b).1;omega,by have:=(c.ba a b).2.1;omega,(c.ba a b).2.2⟩,λa b=>⟨by have:=(c.bb a b).1;omega,by have:=(c.bb a b).2;omega⟩⟩
theorem zo.same{h g:Nat}{f:H}{c d:T}{e:List T}{b s':dK}(a:zo h g f c d e b)(i:s'.iq=b.iq)(j:s'.jD=b.jD):zo h g f c d e s':=⟨by rw[i];exact a.ga,a.gb,by rw[j];exact a.el,a.ba,a.bb⟩
theorem zo.zero(e d:Nat)(c:H):zo e d c (.dq [] false) (.dq [] false) [] ⟨0,[],[],0⟩:=⟨Gr.nil _ _,Gr.nil _ _,.nil,λb a=>by simp at a,λb a=>by simp at a⟩
theorem MG:(jM Q0 Mc Jc).Ok Tryz.prog cx 208:=by
 refine iU (tb:=⟨pt [(97,mh),(234,wG.jl),(233,Fk.jl),(235,CP.jl)],ht [(155,jM IUn Mb HF)]⟩) dX dU (iN 9904163146420522906957187071 [(20,[(2,4),(2,6),(2,7),(2,8)]),(10,[(2,4),(2,6),(2,7),(2,8),(2,10),(2,12),(2,13),(2,14)]),(22,[(1,11),(3,11),(5,11),(7,11),(5,13),(7,13)])] Tryz.func208) (λ_ _=>100) (λi Y g fo=>by obtain⟨rfl,_⟩:=fo;simp[Tryz.f208]) ?_
 rintro⟨i,j,Y,Z,Q,dv,fe,N⟩ _ g ⟨rfl,h,fb,cX,fs,fv,w,hr,e7⟩ l dd
 simp only at h fb fs fv w hr e7
 simp[zU]at dd
 obtain⟨e5,e6⟩:=dd
 simp[Tryz.f208,e5,e6,tR]
 generalize R:(((TI.hr g).cons _).cons _).cons _=q
 have F:gh 0 q:=by rw[<-R];exact((cX.hr.cons _).cons _).cons _
 have gw:q.size=g.size+1+1+1:=by rw[<-R];rfl
 have av:Nb g q:=by rw[<-R];exact⟨((((Nb.refl cX.hr).cons _).cons _).cons _).ok,λd f=>(((((Nb.refl cX.hr).cons _).cons _).cons _).get d f).trans (fU g d)⟩
 have O:q.get g.size=some ⟨6,0,0,true,false,[i.t]⟩:=by rw[<-R];simp
 have P:q.get (g.size+1)=some ⟨4,0,0,true,false,[.agg [.int .i64 j.pC,Y,Z,.int .i64 j.dw]]⟩:=by rw[<-R];simp
 have aA:q.get (g.size+1+1)=some ⟨4,0,0,true,false,[.agg [.int .i64 0,.dq [] false,.dq [] false,.int .i64 0]]⟩:=by rw[<-R];simp
 clear R
 have ds:=h.ga.len (cx:=cx) q Pj _ rfl
 rw[aH]at ds
 have e4:∀y,(dI q (g.size+1+1) y).get (g.size+1+1)=some y:=λy=>(dy aA y _).trans (aq rfl)
 have gQ:=AI i
 refine eQ (iv i).length (by omega) (λU l h'=>q=h'/\TI.dt l 2=some (.ptr g.size 0 0 0)/\TI.dt l 3=some (.ptr (g.size+1) 0 0 0)/\TI.dt l 4=some (.ptr (g.size+1+1) 0 0 0)/\TI.dt l 6=some (sl (fD (iv i)))/\TI.dt l 7=some (.int .i64 U)/\∀E∈(iv i).take U,0<=E/\E<j.iq.length) ?_ ?_ (by omega) (by simp)
 ·rintro U l _ ap e8 ⟨rfl,r,s,A,bp,bs,D⟩
  have fA:(iv i).take (U+1)=(iv i).take U++[(iv i)[U]]:=bj ap
  simp[s,bp,bs,ap,P,ds]
  generalize(iv i)[U]=E at*
  refine dM (λbi=> ?_) (λbi=> ?_)
  ·simp[A,aA,e4,dG]
   refine⟨⟨0,[],[],0⟩,_,_,_,false,rfl,zo.zero _ _ _,λd f _=> ?_,⟨(F.put _ _).out g|>.hp,(F.put _ _).out g|>.low,by simp;omega⟩,by simp⟩
   rw[fj,dy aA,ao (by omega)];exact av.get d f
  ·simp at bi
   simp[r,s,A,bp,bs,e8,fA]
   intro x ce
   rcases ce with ce|rfl
   ·exact D x ce
   ·omega
 ·rintro l _ ⟨rfl,r,s,A,bp,bs,D⟩
  rw[aQ]at D
  simp[r,bp,bs,O]
  have bT:nz q 1 Y (fD j.iq):= .inr (h.ga.mono λd f=>av.get d (by have:=(h.ba d f).2.1;omega))
  have bX:nz q 1 Z Q:= .inr (h.gb.mono λd f=>av.get d (by have:=(h.bb d f).2;omega))
  have bN:∀E:Int,0<=E->E<j.iq.length->∃u e,j.jD[E.toNat]? =some u/\Q[E.toNat]? =some e/\nz q 1 e (fD u)/\Tn N u:=λE r0 r1=>by
   have ap:E.toNat<j.jD.length:=by have:=w.tl;omega
   obtain⟨e,bz,k⟩:=h.el.get (aB ap)
   exact⟨_,e,aB ap,bz,k.1.mono λd f=>av.get d (by have:=(k.2 d f).2.1;omega),w.tn _ (aF ap)⟩
  refine m6 (λl C=>∃(v:Int) (eB:T) (X:T) (W:List Int),Hc eB/\Nb q C/\nz C 1 X (fD W)/\Tn N W/\iI i.a j.iq.length=true/\TI.dt l 2=some (.ptr g.size 0 0 0)/\TI.dt l 3=some (.ptr (g.size+1) 0 0 0)/\TI.dt l 4=some (.ptr (g.size+1+1) 0 0 0)/\TI.dt l 8=some (.int .i64 v)/\TI.dt l 9=some eB/\TI.dt l 10=some X) (λbi=> ?_) (λbi=> ?_) ?_
  ·simp[r,s,A,O,P,aA,dG,ph,F.hp,gw]
   refine⟨{j with pC:=i.a},Y,Z,Q,true,rfl,(h.mono (au _) (by simp;omega) λd _ f=> ?_).same rfl rfl,λd f _=> ?_,⟨(((F.put _ _).put _ _).out g).hp,(((F.put _ _).put _ _).out g).low,by simp;omega⟩,λ_=>⟨⟨rfl,w.tl,w.tn⟩,rfl⟩⟩
   all_goals (rw[fj,ph (by simpa using F.hp) (by simp;omega),ao (by omega),dy P,ao (by omega)];exact av.get d (by omega))
  ·have gM:¬i.op=5:=by simpa using bi
   have f:i.op=1\/i.op=2\/i.op=3\/i.op=4:=by omega
   rcases f with e|e|e|e
   ·have I:=D i.a (by unfold iv;simp[e])
    simp[r,s,A,O,e]
    exact⟨_,_,⟨_,rfl⟩,Nb.refl F,_,[],.inr (Gr.nil _ _),Tn.nil N,ed.2 ⟨I.1,by omega⟩,rfl,rfl,rfl⟩
   ·have I:=D i.a (by unfold iv;simp[e])
    have B:=D i.b (by unfold iv;simp[e])
    obtain⟨p1,aE,aN⟩:=bT.idx (te:=Ha) rfl rfl (i:=i.b.toNat) (x:= .int .i64 j.iq[i.b.toNat]) (by simp[show i.b.toNat<j.iq.length by omega]) rfl
    obtain⟨u,X,hl,bk,M,K⟩:=bN i.b B.1 B.2
    obtain⟨p2,aX,a6⟩:=bX.idx (te:=m8) rfl rfl bk M.fT.2
    simp[r,s,A,O,P,e,dS B.1,aE,aN,aX,a6]
    exact⟨_,_,⟨_,rfl⟩,Nb.refl F,_,u,M,K,ed.2 ⟨I.1,by omega⟩,rfl,rfl,rfl⟩
   ·have I:=D i.a (by unfold iv;simp[e])
    have B:=D i.b (by unfold iv;simp[e])
    obtain⟨p1,aE,aN⟩:=bT.idx (te:=Ha) rfl rfl (i:=i.b.toNat) (x:= .int .i64 j.iq[i.b.toNat]) (by simp[show i.b.toNat<j.iq.length by omega]) rfl
    obtain⟨u,X,hl,bk,M,K⟩:=bN i.b B.1 B.2
    obtain⟨p2,aX,a6⟩:=bX.idx (te:=m8) rfl rfl bk M.fT.2
    obtain⟨_,⟨o,rfl⟩,b9⟩:=wG.use i.n trivial
    obtain⟨_,⟨gp,fL,rfl⟩,a7⟩:=Fk.use (o,j.iq[i.b.toNat]) trivial
    simp only at a7
    simp[r,s,A,O,P,e,dS B.1,aE,aN,aX,a6,b9,a7]
    exact⟨_,_,⟨_,rfl⟩,Nb.refl F,_,u,M,K,ed.2 ⟨I.1,by omega⟩,rfl,rfl,rfl⟩
   ·have I:=D i.a (by unfold iv;simp[e])
    have B:=D i.b (by unfold iv;simp[e])
    have cb:=D i.c (by unfold iv;simp[e])
    obtain⟨p1,aE,aN⟩:=bT.idx (te:=Ha) rfl rfl (i:=i.b.toNat) (x:= .int .i64 j.iq[i.b.toNat]) (by simp[show i.b.toNat<j.iq.length by omega]) rfl
    obtain⟨p3,eH,eI⟩:=bT.idx (te:=Ha) rfl rfl (i:=i.c.toNat) (x:= .int .i64 j.iq[i.c.toNat]) (by simp[show i.c.toNat<j.iq.length by omega]) rfl
    obtain⟨u,X,hl,bk,M,K⟩:=bN i.b B.1 B.2
    obtain⟨l2,gv,gP,fB,ef,eA⟩:=bN i.c cb.1 cb.2
    obtain⟨p2,aX,a6⟩:=bX.idx (te:=m8) rfl rfl bk M.fT.2
    obtain⟨p4,eL,eM⟩:=bX.idx (te:=m8) rfl rfl fB ef.fT.2
    obtain⟨_,⟨o,rfl⟩,b9⟩:=wG.use i.n trivial
    obtain⟨_,⟨gp,fL,rfl⟩,a7⟩:=CP.use (o,j.iq[i.b.toNat],j.iq[i.c.toNat]) trivial
    simp only at a7
    simp[r,s,O,P,e,dS B.1,dS cb.1,aE,aN,aX,a6,eH,eI,eL,eM,b9,a7]
    refine gd Fj (by simp) ⟨u,l2,X,gv⟩ ⟨rfl,M,ef,by have:=K.1;have:=eA.1;simp only;omega,F⟩ ?_
    rintro E C ⟨gm,J,_⟩
    simp[r,s,A]
    exact⟨_,_,⟨_,rfl⟩,J,_,_,gm,K.union eA,ed.2 ⟨I.1,by omega⟩,rfl,rfl,rfl⟩
  ·rintro l C ⟨v,_,X,W,⟨fS,rfl⟩,J,gk,K,I,r,s,A,c7,c9,c6⟩
   have b6:=(J.get _ (by omega)).trans O
   have b7:=(J.get _ (by omega)).trans P
   have c4:=(J.get _ (by omega)).trans aA
   have hh:=J.ok.sz
   obtain⟨ca,p,b8,⟨gZ,gB,gA⟩,hf,bn,L⟩:=kj (cx:=cx) (⟨J.ok.hp,J.ok.low,aw _⟩:gh 0 C) jQ rfl mJ jQ rfl rfl (by simp) gk.iy (by simp[T.cells]) (by have:=K.1;simp;omega)
   have S:=ed.1 I
   have V:Nb g p:=⟨⟨L.hp,L.low,by omega⟩,λd f=>(bn d (by omega)).trans ((J.get d (by omega)).trans (av.get d f))⟩
   have gy:=(bn _ (by omega)).trans b6
   have eE:=(bn _ (by omega)).trans b7
   have eF:=(bn _ (by omega)).trans c4
   obtain⟨m,gz,ha,gE,hc,a8,de,al,di⟩:=(h.ga.mono (h':=p) λd f=>V.get d (by have:=(h.ba d f).2.1;omega)).NA (te:=Ha) rfl (i:=i.a.toNat) (by simpa using S.2)
   obtain⟨z,eN,hb,gI,hd,an,e9,bv,dk⟩:=(h.gb.mono (h':=p) λd f=>V.get d (by have:=(h.bb d f).2;omega)).NA (te:=m8) rfl (i:=i.a.toNat) (by rw[h.el.length,w.tl];exact S.2)
   simp at b8
   have bB:=(h.ba m a8).2.2
   have dn:¬m=z:=λk=>bB (by rw[k];exact an)
   have ea:=H.dL al
   have fE:=H.dL bv
   have eb:=(h.ba m a8)
   have gX:=(h.bb z an)
   have gS:=eb.1
   have gV:=eb.2.1
   obtain⟨e,bz,gj⟩:=h.el.get (aB (show i.a.toNat<j.jD.length by rw[w.tl];exact S.2))
   have eu:=Dk (x:= .arr C.size ca 0 W.length false) gj.1.na
   have fC:Q[i.a.toNat]'(by rw[h.el.length,w.tl];exact S.2)=e:=by rw[aB (by rw[h.el.length,w.tl];exact S.2)]at bz;simpa using bz
   rw[fC]at dk
   have ey:∀x:Int,lr (.int .i64 x) 0 [.int .i64 v]=some (.int .i64 v):=λx=>rfl
   have c1:∀d,d<C.size->dY (C.cons ⟨1,0,0,true,false,[]⟩) p d=true:=λd f=>ee ((bn d f).trans (by rw[dH,ao (by omega)]))
   have eh:=c1 g.size (by omega)
   have eo:=c1 (g.size+1) (by omega)
   have er:=mg al (show g.size≠m by omega)
   have et:=mg al (show g.size+1≠m by omega)
   have gn:=mg al (show z≠m by omega)
   have eO:(g.size+1=m)=False:=by simp;omega
   have eP:(g.size+1=z)=False:=by simp;omega
   have eR:(g.size+1+1=m)=False:=by simp;omega
   have eS:(g.size+1+1=z)=False:=by simp;omega
   have eU:(z=m)=False:=by simp;omega
   have l1:g.size+1<p.size:=by omega
   have l2:g.size+1+1<p.size:=by omega
   have dm:Z= .arr z eN 0 Q.length false:=by
    obtain⟨_,_,_,_,k,e⟩:=(h.gb.mono (h':=p) λd f=>V.get d (by have:=(h.bb d f).2;omega)).box an
    rw[bv]at k;simp at k;rw[e,k.1]
   have fl:i.a.toNat<Q.length:=by rw[h.el.length,w.tl];exact S.2
   simp at di
   simp[r,s,A,c7,c9,c6,b6,b7,b8,dS S.1,de,dm,fl,al,bv,eE,eF,di,dk,ey,eu,eh,eo,er,et,ph,L.hp,ea,fE,eO,eP,eR,eS,eU,l1,l2,dG,oH]
   clear b8 c1 eh eo er et gn b6 b7 c4 r s A c7 c9 c6 eu ey de e9
   have eW:=h.ga.mono (h':=p) λd f=>V.get d (by have:=(h.ba d f).2.1;omega)
   have e0:=h.gb.mono (h':=p) λd f=>V.get d (by have:=(h.bb d f).2;omega)
   rw[<-dm]
   generalize bu:dI (dI (dI (dI p m _) z _) (g.size+1) _) (g.size+1+1) _=ae
   have hg:ae.size=p.size:=by rw[<-bu];simp
   have Wc:gh 0 ae:=by rw[<-bu];exact(((L.put _ _).put _ _).put _ _).put _ _
   have G:∀d,ae.get d=if d=g.size+1+1 then _ else if d=g.size+1 then _ else if d=z then _ else if d=m then _ else p.get d:=λd=>by
    rw[<-bu,ph (by simpa using L.hp) (by simp;omega),ph (by simpa using L.hp) (by simp;omega),ph (by simpa using L.hp) (by simp;omega),ph L.hp ea]
   clear bu
   have Go:∀d,d≠g.size+1+1->d≠g.size+1->d≠z->d≠m->ae.get d=p.get d:=λd fX fY gg gi=>by rw[G,ao fX,ao fY,ao gg,ao gi]
   have eV:=eW.setAt a8 al i.a.toNat (.int .i64 v) (h':=ae) (by rw[G,ao (by omega),ao (by omega),ao (by omega),aq rfl])
   have eX:=e0.setAt an bv i.a.toNat (.arr C.size ca 0 W.length false) (h':=ae) (by rw[G,ao (by omega),ao (by omega),aq rfl])
   have eC:∀d,dE Y=some d->d=m:=λd f=>by rw[a8]at f;simpa using f.symm
   have eD:∀d,dE Z=some d->d=z:=λd f=>by rw[an]at f;simpa using f.symm
   refine⟨⟨IntKind.i64.wrap (j.pC+1),j.iq.set i.a.toNat v,j.jD.set i.a.toNat W,j.dw⟩,Y,Z,Q.set i.a.toNat (.arr C.size ca 0 W.length false),fS,rfl,⟨?_,?_,?_,λd f=> ?_,λd f=> ?_⟩,λd f hr=> ?_,⟨(Wc.out g).hp,(Wc.out g).low,by simp;omega⟩,λ_=>⟨⟨by simp,by simp;exact w.tl,λu hl=> ?_⟩,rfl⟩⟩
   ·have:=eV.out g
    simpa[fD,bV]using this
   ·exact eX.out g
   ·refine h.el.set i.a.toNat ⟨.inr ?_,λd f=> ?_⟩ λe u k=>⟨k.1.mono λd f=> ?_,λd f=> ?_⟩
    ·have:=Gr.new ((Go C.size (by omega) (by omega) (by omega) (by omega)).trans gA)
     simpa using this.out g
    ·simp at f;subst f
     exact⟨by show dv<=_;omega,by simp;omega,λk=>by have:=eC _ k;omega,λk=>by have:=eD _ k;omega⟩
    ·obtain⟨bB,dn,cp,cL⟩:=k.2 d f
     rw[fj,Go d (by omega) (by omega) (λk=>cL (by rw[k];exact an)) (λk=>cp (by rw[k];exact a8))]
     exact V.get d (by omega)
    ·obtain⟨bB,dn,cp,cL⟩:=k.2 d f
     exact⟨bB,by simp;omega,cp,cL⟩
   ·have:=h.ba d f
    exact⟨this.1,by simp;omega,this.2.2⟩
   ·have:=h.bb d f
    exact⟨this.1,by simp;omega⟩
   ·have hr:d<dv\/fe<=d:=hr
    rw[fj,Go d (by omega) (by omega) (by omega) (by omega)];exact V.get d f
   ·rcases cE hl with k|rfl
    ·exact w.tn u k
    ·exact K
structure VH where
 (c:fq) (s:dK) (a b:T) (es:List T) (lo hi N:Nat)
structure S8(N:Nat)(s:dK):Prop where
 rl:s.iq.length<=1000
 tl:s.jD.length<=1000
 tn:∀l∈s.jD,Tn N l
def Md(d:VH)(f:List T)(e:H):Prop:=f=[d.c.t,zU d.s d.a d.b]/\zo d.lo d.hi e d.a d.b d.es d.s/\d.hi<=e.size/\gh 0 e/\S8 d.N d.s/\d.N<=1000000/\d.c.iJ.length<=10000001
def AR(e:VH)(h:List T)(c:H)(g:T)(d:H):Prop:=∃a f,g= .tuple [a.t,.bool f]/\S8 e.N a/\(a.dw=e.s.dw\/a.dw=0)/\d.size=c.size/\(∀b,b<c.size->d.get b=c.get b)/\gh 0 d
theorem FW(d:List Int):∀a∈fD d,cn a=a/\jv a=true/\∀b,a≠ .agg b:=λa c=>by obtain⟨e,_,rfl⟩:=List.mem_map.1 c;simp
theorem zo.fz{o m:Nat}{h:H}{g l:T}{p:List T}{e:dK}(c:zo o m h g l p e)(k:Nat->Prop)(i:∀a,o<=a->a<m->k a):gG (FT h k 3) [.int .i64 e.pC,g,l,.int .i64 e.dw] e.cs:=
 .cons (fJ ..) (.cons ((show nz h 1 g (fD e.iq)from .inr c.ga).ft (d:=1) (FW _) λa b=>i a (c.ba a b).1 (c.ba a b).2.1)
  (.cons (c.gb.ft (λa b=>i a (c.bb a b).1 (c.bb a b).2) (c.el.Ul (f:=λn=>sl (fD n)) λq n j=>j.1.ft (d:=0) (FW _) λa b=>i a (j.2 a b).1 (j.2 a b).2.1)) (.cons (fJ ..) .nil)))
theorem SY{i:VH}{args:List T}{b d:H}{e:List T}{s':dK}{ok:Bool}{V:Nat->Prop}(o:gh 0 b)(a:Nb b d)(l:∀c,V c->b.size<=c)(k:gG (FT d V 3) e s'.cs)(q:S8 i.N s')(n:s'.dw=i.s.dw\/s'.dw=0):Lx b (.tuple [.agg e,.bool ok]) d (AR i args b):=by
 obtain⟨p,h,j⟩:=FT.tup (by omega) l k ok
 refine⟨a.ok.hp,a.ok.sz,λc r m _=> .inl (a.get c m),p,h,s',ok,by rw[j];rfl,q,n,rfl,λg f=>(BH a.ok.hp a.ok.sz f).trans (a.get g f),o.cut a.ok.hp a.ok.sz⟩
def IZ:dK:=⟨0,[],[],0⟩
theorem BC{d:VH}{c:List T}{a b:H}(f:gh 0 a)(e:Nb a b):Lx a (.tuple [.agg [.int .i64 0,.dq [] false,.dq [] false,.int .i64 0],.bool false]) b (AR d c a):=
 SY (s':=IZ) (V:=λ_=>False) f e (λ_ g=>g.elim) (.cons (fJ ..) (.cons (iL ..) (.cons (iL ..) (.cons (fJ ..) .nil)))) ⟨by simp[IZ],by simp[IZ],by simp[IZ]⟩ (.inr rfl)
structure SeS(c:fq)(s:dK)(N:Nat)(h h':H)(s':dK)(a' b':T)(es':List T)(ver:Nat):Prop where
 tx:zo (h.size+1+1+1) h'.size h' a' b' es' s'
 nb:Nb h h'
 hz:h.size+1+1+1<=h'.size
 g2:h'.get h.size=some ⟨2,0,0,true,false,[c.t]⟩
 g3:h'.get (h.size+1)=some ⟨4,0,ver,true,false,[.agg [.int .i64 s'.pC,a',b',.int .i64 s'.dw]]⟩
 g4:h'.get (h.size+1+1)=some ⟨4,0,0,true,false,[.agg [.int .i64 0,.dq [] false,.dq [] false,.int .i64 0]]⟩
 to:TOk N s.iq.length s'
 ev:s'.dw=s.dw
theorem MH:(jM VH Md AR).Ok Tryz.prog cx 164:=by
 refine IW (tb:=⟨pt [(206,tq)],ht [(207,jM ICp Mh HJ),(208,jM Q0 Mc Jc)]⟩) dX dU (iN 1182933510117985879039 [] Tryz.func164) (λz a=>10000005) (λi z a di=>by obtain⟨rfl,_⟩:=di;simp[Tryz.f164]) ?_
 rintro⟨b,d,z,T,a6,bv,bn,S⟩ _ a ⟨rfl,s,c7,ok,tb,bi,w⟩ y bk
 simp only at s c7 tb bi w
 simp[zU]at bk
 obtain⟨c1,J⟩:=bk
 have bs:=λJ:H=>s.ga.len (cx:=cx) J Pj _ rfl
 have bu:=λJ:H=>s.gb.len (cx:=cx) J Hl _ rfl
 rw[aH]at bs
 rw[s.el.length]at bu
 simp[Tryz.f164,c1,J,bs,bu]
 generalize v:(((TI.hr a).cons _).cons _).cons _=r
 have ef:gh 0 r:=by rw[<-v];exact((ok.hr.cons _).cons _).cons _
 have eL:r.size=a.size+1+1+1:=by rw[<-v];rfl
 have ap:Nb a r:=by rw[<-v];exact⟨((((Nb.refl ok.hr).cons _).cons _).cons _).ok,λb w=>(((((Nb.refl ok.hr).cons _).cons _).cons _).get b w).trans (fU a b)⟩
 have b8:r.get a.size=some ⟨2,0,0,true,false,[b.t]⟩:=by rw[<-v];simp
 have aN:r.get (a.size+1)=some ⟨4,0,0,true,false,[.agg [.int .i64 d.pC,z,T,.int .i64 d.dw]]⟩:=by rw[<-v];simp
 have U:r.get (a.size+1+1)=some ⟨4,0,0,true,false,[.agg [.int .i64 0,.dq [] false,.dq [] false,.int .i64 0]]⟩:=by rw[<-v];simp
 clear v
 have cX:∀c,(dI r (a.size+1+1) c).get (a.size+1+1)=some c:=λc=>(dy U c _).trans (aq rfl)
 refine dM (λM=> ?_) (λM=> ?_)
 ·simp[U,cX,dG]
  exact BC ok (ap.put U (by omega) _)
 simp at M
 have eb:∀b,bv<=b->b<bn->r.get b=a.get b:=λb _ w=>ap.get b (by omega)
 have aA:=s.mono (au _) (au _) eb
 simp[aN]
 refine gd FC (by simp) ⟨d,z,T,a6⟩ ⟨rfl,⟨.inr aA.ga,.inr aA.gb,aA.el.imp λ_ _ p=>p.1,λe h he an=> ?_⟩,ef,by have:=tb.rl;simp only;omega,by have:=tb.tl;simp only;omega,λl hl=>by have:=(tb.tn l hl).1;omega⟩ ?_
 ·rcases he with rfl|rfl|he
  ·have:=(s.ba h an).2.1;omega
  ·have:=(s.bb h an).2;omega
  ·obtain⟨l,p,k⟩:=s.el.left he
   have:=(k h an).2.1;omega
 rintro _ g ⟨a1,n,ZV,rfl,b6,x⟩
 simp only at b6
 have eH:=x.ok.sz
 have b9:=(x.get _ (by omega)).trans b8
 have A:=(x.get _ (by omega)).trans aN
 have ca:=(x.get _ (by omega)).trans U
 have bN:Nb a (dI g (a.size+1) ⟨4,0,1,true,false,[.agg [.int .i64 d.pC,a1,n,.int .i64 d.dw]]⟩):=(ap.trans x).put A (by omega) _
 have er:=b6.mono (lo':=a.size+1+1+1) (hi':=(dI g (a.size+1) ⟨4,0,1,true,false,[.agg [.int .i64 d.pC,a1,n,.int .i64 d.dw]]⟩).size) (h':=dI g (a.size+1) ⟨4,0,1,true,false,[.agg [.int .i64 d.pC,a1,n,.int .i64 d.dw]]⟩) (by omega) (by simp) λb w _=>by rw[dy A,ao (by omega)]
 have eF:gh 0 g:=⟨x.ok.hp,x.ok.low,aw _⟩
 have cb:(dI g (a.size+1) ⟨4,0,1,true,false,[.agg [.int .i64 d.pC,a1,n,.int .i64 d.dw]]⟩).get a.size=_:=(show(dI g (a.size+1) ⟨4,0,1,true,false,[.agg [.int .i64 d.pC,a1,n,.int .i64 d.dw]]⟩).get a.size=g.get a.size by rw[dy A,ao (by omega)]).trans b9
 have ce:(dI g (a.size+1) ⟨4,0,1,true,false,[.agg [.int .i64 d.pC,a1,n,.int .i64 d.dw]]⟩).get (a.size+1)=_:=(dy A _ _).trans (aq rfl)
 have aX:(dI g (a.size+1) ⟨4,0,1,true,false,[.agg [.int .i64 d.pC,a1,n,.int .i64 d.dw]]⟩).get (a.size+1+1)=_:=(show(dI g (a.size+1) ⟨4,0,1,true,false,[.agg [.int .i64 d.pC,a1,n,.int .i64 d.dw]]⟩).get (a.size+1+1)=g.get (a.size+1+1)by rw[dy A,ao (by omega)]).trans ca
 simp[zU,A,dG]
 generalize dI g (a.size+1) _=eB at*
 refine eQ (b.iJ.length+1) (by omega) (λO y h'=>∃q G I V R,SeS b d S a h' q G I V R/\TI.dt y 2=some (.ptr a.size 0 0 0)/\TI.dt y 3=some (.ptr (a.size+1) 0 0 0)/\TI.dt y 4=some (.ptr (a.size+1+1) 0 0 0)/\TI.dt y 6=some (.int .i64 O)) ?_ ?_ (by omega) ?_
 ·rintro O y h' eC c4 ⟨q,G,I,V,R,⟨aE,o,dm,B,C,f,m,al⟩,E,F,u,K⟩
  have D:∀c,(dI h' (a.size+1+1) c).get (a.size+1+1)=some c:=λc=>(dy f c _).trans (aq rfl)
  have bX:gh 0 h':=⟨o.ok.hp,o.ok.low,aw _⟩
  simp[E,F,K,B,C,show(O:Int)<=b.iJ.length by omega]
  refine dM (λM=> ?_) (λM=> ?_)
  ·simp[u,f,D,dG]
   exact BC ok (o.put f (by omega) _)
  simp at M
  obtain⟨Y,L⟩:∃Y:Nat,q.pC=Y:=⟨q.pC.toNat,by omega⟩
  have c9:Y<b.iJ.length:=by omega
  have ea:(a.size=h'.size)=False:=by simp;omega
  have bz:(a.size+1=h'.size)=False:=by simp;omega
  have bB:(a.size+1+1=h'.size)=False:=by simp;omega
  have dd:=bX.low
  simp[E,F,B,C,L,c9,dd,vw]
  generalize b.iJ[Y]=h at*
  have eE:=o.cons ⟨6,0,1,true,false,[h.t]⟩
  have et:S8 S q:=⟨by have:=m.rl;have:=tb.rl;omega,by have:=m.tl;have:=tb.rl;omega,m.tn⟩
  have eA:∀c,((dI h' (a.size+1+1) c).cons ⟨6,0,1,true,false,[h.t]⟩).get (a.size+1+1)=some c:=λc=>by rw[dH,ao (by simp;omega)];exact D c
  refine dM (λX=> ?_) (λX=> ?_)
  ·have cL:∀c:iE,∀b,a.size+1+1+1<=b->b<h'.size->((dI h' (a.size+1+1) c).cons ⟨6,0,1,true,false,[h.t]⟩).get b=h'.get b:=λc b eo av=>by rw[dH,ao (by simp;omega),dy f,ao (by omega)]
   simp[F,u,C,f,bz,bB,L,D,dG,show a.size+1+1<h'.size by omega]
   have:=SY (i:=⟨b,d,z,T,a6,bv,bn,S⟩) (args:=[b.t,zU d z T]) (ok:=true) ok ((o.put f (by omega) ⟨4,0,1,true,false,[.agg [.int .i64 q.pC,G,I,.int .i64 q.dw]]⟩).cons ⟨6,0,1,true,false,[h.t]⟩) (λb w=>(show a.size<=b from w)) ((aE.mono (au _) (au _) (cL _)).fz (λb=>a.size<=b) λb p _=>by omega) et (.inl al)
   rw[L]at this
   exact this
  simp at X
  have bp:1<=h.op/\h.op<=5:=by unfold uR at X;simpa using X
  have de:decide ((O:Int)=b.iJ.length)=decide (O=b.iJ.length):=by rw[decide_eq_decide];omega
  simp[E,K,B,ea,de]
  refine dM (λdk=> ?_) (λdk=> ?_)
  ·simp[u,f,bB,dG,D,show a.size+1+1<h'.size by omega]
   exact BC ok ((o.put f (by omega) _).cons _)
  simp[F,C,bz,L]
  have eu:=aE.mono (h':=h'.cons ⟨6,0,1,true,false,[h.t]⟩) (au _) (au _) λb _ p=>by rw[dH,ao (by omega)]
  refine gd MG (by simp) ⟨h,q,G,I,V,a.size+1+1+1,h'.size,S⟩ ⟨by simp[zU,L],eu,by simp,bX.cons _,bp.1,bp.2,⟨rfl,by have:=m.rl;have:=m.tl;simp only;omega,m.tn⟩,by have:=tb.rl;have:=m.rl;simp only;omega,bi⟩ ?_
  rintro _ j ⟨Q,a2,ae,vD,eh,rfl,b7,a7,P,a8⟩
  simp only[X2]at b7 a7 P a8
  have eI:=P.sz
  have W:∀b,b<a.size+1+1+1->j.get b=h'.get b:=λb p=>(a7 b (by omega) (.inl p)).trans (by rw[dH,ao (by omega)])
  have dn:=(W a.size (by omega)).trans B
  have N:=(W (a.size+1) (by omega)).trans C
  have Z:=(W (a.size+1+1) (by omega)).trans f
  have eD:(a.size=j.size)=False:=by simp;omega
  have ds:(a.size+1=j.size)=False:=by simp;omega
  have dv:(a.size+1+1=j.size)=False:=by simp;omega
  have bT:Nb a j:=⟨⟨P.hp,P.low,by omega⟩,λb p=>(W b (by omega)).trans (o.get b p)⟩
  have cp:∀c,(dI j (a.size+1+1) c).get (a.size+1+1)=some c:=λc=>(dy Z c _).trans (aq rfl)
  simp[zU,P.low,dG]
  cases eh with
  |false=>
   simp[u,Z,dv,dG,cp,show a.size+1+1<j.size by omega]
   exact BC ok ((bT.put Z (by omega) _).cons _)
  |true=>
   obtain⟨t2,ey⟩:=a8 rfl
   simp[E,F,u,K,N,ds,dG,c4,show a.size+1<j.size by omega]
   have e:∀b,b<a.size+1+1+1->b≠a.size+1->((dI j (a.size+1) ⟨4,0,R+1,true,false,[.agg [.int .i64 Q.pC,a2,ae,.int .i64 Q.dw]]⟩).cons ⟨4,0,1,true,false,[.agg [.int .i64 Q.pC,a2,ae,.int .i64 Q.dw]]⟩).get b=j.get b:=λb eo av=>by rw[dH,ao (by simp;omega),dy N,ao av]
   refine⟨Q,a2,ae,vD,R+1,b7.mono (au _) (by simp) λb p av=> ?_,(bT.put N (by omega) _).cons _,by simp;omega,(e _ (by omega) (by omega)).trans dn,?_,(e _ (by omega) (by omega)).trans Z,⟨by rw[t2.rl];exact m.rl,by rw[t2.tl];exact m.rl,t2.tn⟩,by rw[ey];exact al⟩
   ·rw[dH,ao (by simp;omega),dy N,ao (by omega)]
   ·rw[dH,ao (by simp;omega),dy N,aq rfl]
 ·rintro y h' ⟨q,G,I,V,R,⟨aE,o,dm,B,C,f,m,al⟩,E,F,u,K⟩
  have D:∀c,(dI h' (a.size+1+1) c).get (a.size+1+1)=some c:=λc=>(dy f c _).trans (aq rfl)
  have c6:((b.iJ.length:Int)+1<=b.iJ.length)=False:=by simp;omega
  simp[E,u,K,B,f,D,dG,c6]
  exact BC ok (o.put f (by omega) _)
 ·simp
  exact⟨d,a1,n,ZV,1,er,bN,by have:=bN.ok.sz;have:=H.dL aX;omega,cb,ce,aX,⟨rfl,by omega,tb.tn⟩,rfl⟩
end
noncomputable section
open Go Go.TI
def tO(b:dJ)(a:dW):Bool:=mW b a.fW&&decide (a.cells.length=b.cells.length)&&decide (a.dR.length=b.dR.length)&&decide (a.count.length=b.dp.length)
def wI(b:Int):aa Int->List Int->Bool
 |_,[]=>true
 |p,a::c=> !(decide (a<1))&& !(decide (b<=a))&&(match p with|some d=> !(decide (a<=d))|none=>true)&&wI b (some a) c
def m7(b:dW)(a:dN):Bool:=
 if a.kind=3 then(match wi b.cells a.obj with|some c=>decide (a.value=c)|none=>false)
 else if a.kind=23 then(match wi b.dR a.obj with|some c=>decide (a.value=c)|none=>false)
 else if a.kind=5 then decide (a.value=0)||decide (a.value=1)
 else if a.kind=4\/a.kind=22 then true
 else if a.kind=18 then(if gu a.obj b.fW.dp 0=[]then decide (a.value=-1)else decide (0<=a.value)&&decide (a.value<b.fW.dp.length)&&decide (a.value∈gu a.obj b.fW.dp 0))
 else if a.kind=19 then decide (a.value=(gu a.obj b.fW.dp 0).length)
 else decide (a.value=0)
def yW(d c:Int):List dN->Nat->Bool->Bool
 | [],_,a=>a
 |e::f,b,a=>if e.dA=d then yW d c f (b+1) (a||(decide ((b:Int)=c)&&(decide (e.kind=3)||decide (e.kind=23))))else yW d c f b a
def ut(a:List dN)(d:Int)(c:List Int):Bool:=c.all λb=>yW d b a 0 false
theorem Kb(c:Int):∀(a:List dx) (b:Nat),(gu c a b).length<=a.length:=by
 intro a
 induction a with
 |nil=>intro b;simp[gu]
 |cons e a d=>intro b;rw[gu];have:=d (b+1);split<;>simp<;>omega
def lq(a:dN):Bool:=decide (a.kind=3)||decide (a.kind=4)
def j7(a b:dN):Bool:=lq a&&lq b&&decide (a.obj=b.obj)&&(decide (a.kind=4)||decide (b.kind=4))
def pw(a:Int):Bool:=decide (a=6)||decide (a=8)||decide (a=10)||decide (a=17)||decide (a=21)
def pG(b:List dN)(a:Int):dN:=(wi b a).getD default
structure GX where
 w:dJ
 ev:List dN
 st:List ej
def GX.e(b:GX)(a:Int):dN:=pG b.ev a
def GX.s(b:GX)(a:Int):ej:=(wi b.st a).getD default
def GX.S2(d:GX)(a b:Int)(c:dN->Bool):Bool:=((d.ev.drop a.toNat).take (b-a).toNat).all c
def GX.mM(a:GX)(c b:Int):Bool:=
 if(a.e b).dA=(a.e c).dA then false
 else if(a.e b).kind=6\/(a.e b).kind=10 then decide ((lN (a.s c) (a.e b).obj).iw=(a.e c).dA)||decide ((a.e c).dA∈(lN (a.s c) (a.e b).obj).dQ)
 else if(a.e b).kind=8 then decide ((lN (a.s c) (a.e b).obj).iw=(a.e c).dA)
 else if(a.e b).kind=17 then decide ((qQ a.w (a.s c) (a.e b).obj).iw=(a.e c).dA)
 else if(a.e b).kind=21 then decide ((a.e b).obj=(a.e c).dA)
 else false
def GX.pI(b:GX)(a c:Int):Bool:=pw (b.e a).kind&&b.mM a c
theorem GX.Lj{b:GX}{j a:Int}(c:b.mM j a=true):pw (b.e a).kind=true:=by
 unfold GX.mM at c
 unfold pw
 by_cases h:(b.e a).kind=6
 ·simp[h]
 by_cases d:(b.e a).kind=10
 ·simp[d]
 by_cases i:(b.e a).kind=8
 ·simp[i]
 by_cases f:(b.e a).kind=17
 ·simp[f]
 by_cases g:(b.e a).kind=21
 ·simp[g]
 simp[h,d,i,f,g]at c
def GX.Eu(c:GX)(d:Int->Int->Bool)(a:List Int):Bool:=
 decide (2<=a.length)&&decide (a.length<=4)&&(a.all λb=>iI b c.ev.length)&&(List.range a.length).all λb=>
  !decide (a.getD b 0<a.getD 0 0)&&d (a.getD ((b+1)% a.length) 0) (a.getD b 0)&&(List.range b).all λf=> !decide ((c.e (a.getD b 0)).dA=(c.e (a.getD f 0)).dA)
theorem GX.NU(e:GX)(d:List Int):e.Eu e.pI d=e.Eu e.mM d:=by
 unfold GX.Eu
 by_cases hl:2<=d.length
 rotate_left
 ·simp[hl]
 congr 1
 rw[bF,cu,cu]
 constructor
 ·intro a c f
  have:=a c f
  simp only[ay,GX.pI]at this|-
  exact⟨⟨this.1.1,this.1.2.2⟩,this.2⟩
 ·intro a c f
  have b:=a c f
  have g:=a ((c+1)% d.length) (by rw[cU];exact Nat.mod_lt _ (by omega))
  simp only[ay,GX.pI]at b g|-
  exact⟨⟨b.1.1,GX.Lj g.1.2,b.1.2⟩,b.2⟩
def GX.dead(g:GX)(f:Int->Int->Bool)(e:fw):Bool:=decide (e.a=0)&&decide (e.b=0)&&decide (e.c=0)&&decide (e.d=0)&&g.Eu f e.jf
def GX.O8(a:GX)(b c:Int):Bool:=decide (b<c)&& !decide ((a.e b).dA=(a.e c).dA)&&j7 (a.e b) (a.e c)&& !((wi a.w.cells (a.e b).obj).getD default).rX
def GX.Nv(a:GX)(b c:Int):Bool:=
 decide (c<b)&&(decide ((a.e b).kind=18)||decide ((a.e b).kind=19))&&decide ((a.e c).kind=16)&&decide ((a.e b).obj=(a.e c).obj)&& !decide ((a.e b).dA=(a.e c).dA)&&
  a.S2 (c+1) b (λd=> !decide (d.dA=(a.e c).dA))&&decide ((oQ (a.s b) (a.e c).dA).im=3)&&(decide ((a.e b).kind=19)||decide ((a.e b).value=(a.e c).dA))
def GX.xH(b:Int)(a:dN):Bool:= !(decide (a.dA=b)&&decide (a.kind=15))
def GX.GT(b:GX)(a c:Int):Bool:=
 decide (a<c)&&decide ((b.e c).dA=(b.e a).dA)&&(oQ (b.s a) (b.e a).dA).atomic&&b.S2 (a+1) c (GX.xH (b.e a).dA)
def GX.Vo(a:GX)(d f b c:Int):Bool:=
 decide (b<=c)&&decide ((a.e b).dA=(a.e c).dA)&& !decide ((a.e b).dA=(a.e d).dA)&&j7 (a.e d) (a.e b)&&j7 (a.e c) (a.e f)
def GX.GS(a:GX)(b c d f:Int):Bool:=
 decide (b<c)&&decide (d<=f)&&decide ((a.e b).dA=(a.e c).dA)&&decide ((a.e d).dA=(a.e f).dA)&& !decide ((a.e b).dA=(a.e d).dA)&&j7 (a.e b) (a.e d)&&j7 (a.e f) (a.e c)&&
  a.S2 b c (GX.xH (a.e b).dA)&&(oQ (a.s b) (a.e b).dA).atomic
def GX.zg(b:GX)(a:Int):Bool:=iI a b.ev.length
def GX.vR(f:GX)(e:fw):Bool:=
 if e.kind=2 then f.dead f.mM e
 else if(f.zg e.a&&f.zg e.b&&f.zg e.c&&f.zg e.d)=true then
  (
   if e.kind=1 then decide (e.c=0)&&decide (e.d=0)&&decide (e.jf=[])&&f.O8 e.a e.b
   else if e.kind=3 then decide (e.c=0)&&decide (e.d=0)&&decide (e.jf=[])&&f.Nv e.a e.b
   else if e.kind=4 then decide (e.jf=[])&&f.GS e.a e.b e.c e.d
   else false)
 else false
def GX.vG(f:GX)(e:fw):Bool:=
 if e.kind=1 then decide (e.c=0)&&decide (e.d=0)&&decide (e.jf=[])&&(f.zg e.a&&f.zg e.b)&&f.O8 e.a e.b
 else if e.kind=2 then f.dead f.pI e
 else if e.kind=3 then decide (e.c=0)&&decide (e.d=0)&&decide (e.jf=[])&&(f.zg e.a&&f.zg e.b)&&f.Nv e.a e.b
 else if e.kind=4 then decide (e.jf=[])&&(f.zg e.a&&f.zg e.b&&f.zg e.c&&f.zg e.d)&&f.GT e.a e.b&&f.Vo e.a e.b e.c e.d
 else false
theorem GX.in0{a:GX}{b:Int}(c:a.zg b=true):a.zg 0=true:=by
 unfold GX.zg at*
 rw[ed]at*
 omega
theorem GX.Vn{b:GX}{a c g r:Int}(u:b.zg a=true):(b.GT a c&&b.Vo a c g r)=b.GS a c g r:=by
 have w:j7 (b.e a) (b.e g)=true->a<c->b.S2 a c (GX.xH (b.e a).dA)=b.S2 (a+1) c (GX.xH (b.e a).dA):=by
  intro d q
  obtain⟨t,f⟩:=ed.1 u
  unfold GX.S2
  have s:b.ev.drop a.toNat=b.e a::b.ev.drop (a+1).toNat:=by
   rw[show(a+1).toNat=a.toNat+1 by omega,aJ f]
   congr 1
   unfold GX.e pG wi
   rw[aq t]
   simp[f]
  rw[s,show(c-a).toNat=(c-(a+1)).toNat+1 by omega,List.take_succ_cons,cA]
  have v:GX.xH (b.e a).dA (b.e a)=true:=by
   unfold GX.xH
   unfold j7 lq at d
   simp only[ay,bR,aL]at d
   rcases d.1.1.1 with h|h<;>simp[h]
  rw[v,bM]
 unfold GX.GT GX.Vo GX.GS
 by_cases d:j7 (b.e a) (b.e g)=true
 ·by_cases q:a<c
  ·rw[w d q]
   rw[bF]
   simp only[ay,aL,bP,bo]
   constructor
   ·rintro⟨⟨⟨⟨f,i⟩,j⟩,k⟩,⟨⟨⟨l,m⟩,n⟩,o⟩,p⟩
    exact⟨⟨⟨⟨⟨⟨⟨⟨f,l⟩,i.symm⟩,m⟩,λh=>n h.symm⟩,o⟩,p⟩,k⟩,j⟩
   ·rintro⟨⟨⟨⟨⟨⟨⟨⟨f,l⟩,i⟩,m⟩,n⟩,o⟩,p⟩,k⟩,j⟩
    exact⟨⟨⟨⟨f,i.symm⟩,j⟩,k⟩,⟨⟨⟨l,m⟩,λh=>n h.symm⟩,o⟩,p⟩
  ·simp[q]
 ·rw[Bool.not_eq_true]at d
  simp[d]
theorem GX.Tk(f:GX)(e:fw):f.vG e=f.vR e:=by
 unfold GX.vG GX.vR
 by_cases g:e.kind=1
 ·rw[aq g,ao (by omega),aq g]
  by_cases j:e.c=0
  rotate_left
  ·simp[j]
  by_cases k:e.d=0
  rotate_left
  ·simp[k]
  rw[j,k]
  cases i:f.zg e.a with
  |false=>simp
  |true=>rw[GX.in0 i];cases f.zg e.b<;>simp
 rw[ao g]
 by_cases l:e.kind=2
 ·rw[aq l,aq l];unfold GX.dead;rw[GX.NU]
 rw[ao l,ao l]
 by_cases h:e.kind=3
 ·rw[aq h,ao g,aq h]
  by_cases j:e.c=0
  rotate_left
  ·simp[j]
  by_cases k:e.d=0
  rotate_left
  ·simp[k]
  rw[j,k]
  cases i:f.zg e.a with
  |false=>simp
  |true=>rw[GX.in0 i];cases f.zg e.b<;>simp
 rw[ao h]
 by_cases m:e.kind=4
 ·rw[aq m,ao g,ao h,aq m]
  cases i:f.zg e.a with
  |false=>simp
  |true=>
   rw[<-GX.Vn i]
   cases (f.zg e.b)<;>cases f.zg e.c<;>cases f.zg e.d<;>simp[Bool.and_assoc]
 rw[ao m,ao g,ao h,ao m]
 simp
def gC(a:List Int):fw:=⟨2,0,0,0,0,a⟩
def fV(a b:Nat):List Nat:=List.range' a (b-a)
def w7(d:Nat)(b:List Int->Bool)(go:List Int->Int->Bool):Nat->List Int->List (List Int)
 |0,a=>if b a=true then [a]else []
 |k+1,a=>(if b a=true then [a]else [])++(fV ((a.getD 0 0).toNat+1) d).flatMap λ(c:Nat)=>if go a c=true then w7 d b go k (a++[(c:Int)])else []
theorem Jz{k:Nat}{e:List Int->Bool}{go:List Int->Int->Bool}:∀(b:Nat) (c a:List Int),a∈w7 k e go b c->e a=true/\∃d,a=c++d:=by
 intro b
 induction b with
 |zero=>
  intro c a h
  unfold w7 at h
  split at h
  ·simp at h;subst h;exact⟨by assumption,[],by simp⟩
  ·simp at h
 |succ b i=>
  intro c a h
  unfold w7 at h
  rw[List.mem_append]at h
  rcases h with h|h
  ·split at h
   ·simp at h;subst h;exact⟨by assumption,[],by simp⟩
   ·simp at h
  ·rw[cC]at h
   obtain⟨j,_,h⟩:=h
   split at h
   ·obtain⟨f,d,g⟩:=i _ _ h
    exact⟨f,(j:Int)::d,by rw[g];simp⟩
   ·simp at h
theorem JA{n:Nat}{ok:List Int->Bool}{go:List Int->Int->Bool}(g:∀(a e:List Int) (b:Int),ok (a++b::e)=true->go a b=true):∀(c:Nat) (a:List Int),w7 n ok go c a=w7 n ok (λ_ _=>true) c a:=by
 intro c
 induction c with
 |zero=>intro a;rfl
 |succ c i=>
  intro a
  unfold w7
  congr 1
  congr 1
  funext b
  rw[aq rfl,<-i]
  by_cases d:go a b=true
  ·rw[aq d]
  ·rw[ao d]
   symm
   rw[List.eq_nil_iff_forall_not_mem]
   intro j h
   obtain⟨f,e,rfl⟩:=Jz _ _ _ h
   exact d (g a e b (by simpa using f))
theorem UU{c:Nat}{a b:List Int->Bool}{go:List Int->Int->Bool}(e:∀d,a d=b d):w7 c a go=w7 c b go:=by
 rw[show a=b from funext e]
def ks(a:List Int):Int:=a.getD (a.length-1) 0
theorem GX.Gw{o:GX}{h:Int->Int->Bool}{a d:List Int}{b:Int}(n:a≠ [])(e:o.Eu h (a++b::d)=true):h b (ks a)=true/\b∉a:=by
 unfold GX.Eu at e
 simp only[ay,cu]at e
 have p:0<a.length:=List.length_pos_iff.2 n
 have g:(a++b::d).length=a.length+1+d.length:=by simp;omega
 have i:(a++b::d).getD a.length 0=b:=by simp[List.getD]
 refine⟨?_,λm=> ?_⟩
 ·have c:=(e.2 (a.length-1) (by rw[cU,g];omega)).1.2
  rw[show a.length-1+1=a.length by omega,Nat.mod_eq_of_lt (by rw[g];omega),i]at c
  have f:(a++b::d).getD (a.length-1) 0=ks a:=by
   unfold ks
   simp[List.getD,bW (show a.length-1<a.length by omega)]
  rwa[f]at c
 ·obtain⟨k,j,l⟩:=List.getElem_of_mem m
  have c:=(e.2 a.length (by rw[cU,g];omega)).2 k (by rw[cU];omega)
  rw[i]at c
  have f:(a++b::d).getD k 0=b:=by
   simp only[List.getD,bW j,aB j,l,Option.getD_some]
  rw[f]at c
  simp at c
def GX.yK(b:GX)(d:Nat):List (List Int):=w7 b.ev.length (λa=>b.vR (gC a)) (λa c=> !decide (c∈a)&&b.mM c (ks a)) 3 [(d:Int)]
def GX.Iu(b:GX)(c:Nat):List (List Int):=w7 b.ev.length (λa=>decide (2<=a.length)&&b.vG (gC a)) (λa d=>b.pI d (ks a)) 3 [(c:Int)]
theorem GX.Tm(a:GX)(b:List Int):a.vR (gC b)=a.Eu a.mM b:=by
 unfold GX.vR GX.dead gC;simp
theorem NR{d:Nat}{e:List Int->Bool}{go go':List Int->Int->Bool}(f:∀(a:List Int) (b:Int),a≠ []->go a b=go' a b):∀(c:Nat) (a:List Int),a≠ []->w7 d e go c a=w7 d e go' c a:=by
 intro c
 induction c with
 |zero=>intro a _;rfl
 |succ c h=>
  intro a g
  unfold w7
  congr 1
  congr 1
  funext b
  rw[f a b g,h (a++[(b:Int)]) (by simp)]
theorem GX.NT(b:GX)(g:Nat):b.Iu g=b.yK g:=by
 unfold GX.Iu GX.yK
 have j:∀a,(decide (2<=a.length)&&b.vG (gC a))=b.vR (gC a):=by
  intro a
  rw[GX.Tk,GX.Tm]
  by_cases d:2<=a.length
  ·simp[d]
  ·unfold GX.Eu;simp[d]
 rw[UU j]
 have h:=JA (n:=b.ev.length) (ok:=λa=>b.vR (gC a)) (go:=λa f=>decide (a=[])||b.pI f (ks a)) (λa m f d=>by
  by_cases c:a=[]
  ·simp[c]
  ·rw[GX.Tm,<-GX.NU]at d
   simp[(GX.Gw c d).1]) 3 [(g:Int)]
 have i:=JA (n:=b.ev.length) (ok:=λa=>b.vR (gC a)) (go:=λa e=>decide (a=[])||(!decide (e∈a)&&b.mM e (ks a))) (λa m f d=>by
  by_cases c:a=[]
  ·simp[c]
  ·rw[GX.Tm]at d
   obtain⟨k,l⟩:=GX.Gw c d
   simp[k,l]) 3 [(g:Int)]
 rw[NR (go':=λa f=>decide (a=[])||b.pI f (ks a)) (λa f c=>by simp[c]) 3 _ (by simp),
  NR (go:=λa e=> !decide (e∈a)&&b.mM e (ks a)) (go':=λa e=>decide (a=[])||(!decide (e∈a)&&b.mM e (ks a))) (λa f c=>by simp[c]) 3 _ (by simp),h,i]
def GX.n(a:GX):Nat:=a.ev.length
def ig(b:fw->Bool)(a:fw):List fw:=if b a=true then [a]else []
def gR(a b:Nat):fw:=⟨1,a,b,0,0,[]⟩
def gL(a b:Nat):fw:=⟨3,a,b,0,0,[]⟩
def gA(a b c d:Nat):fw:=⟨4,a,b,c,d,[]⟩
def GX.mV(a:GX):List fw:=
 ((List.range a.n).flatMap λ(b:Nat)=>(List.range a.n).flatMap λ(c:Nat)=>ig a.vR (gR b c))++
 ((List.range a.n).flatMap λ(b:Nat)=>(a.yK b).map gC)++
 ((List.range a.n).flatMap λ(b:Nat)=>(List.range a.n).flatMap λ(c:Nat)=>ig a.vR (gL b c))++
 ((
  List.range a.n).flatMap λ(b:Nat)=>(fV (b+1) a.n).flatMap λ(c:Nat)=>
  if(a.e b).dA=(a.e c).dA/\lq (a.e b)=true/\lq (a.e c)=true then(List.range a.n).flatMap λ(d:Nat)=>(fV d a.n).flatMap λ(f:Nat)=>ig a.vR (gA b c d f)else [])
def GX.mI(a:GX):List fw:=
 ((List.range a.n).flatMap λ(b:Nat)=>(fV (b+1) a.n).flatMap λ(c:Nat)=>ig a.vG (gR b c))++
 ((List.range a.n).flatMap λ(b:Nat)=>(a.Iu b).map gC)++
 ((List.range a.n).flatMap λ(b:Nat)=>(List.range b).flatMap λ(c:Nat)=>ig a.vG (gL b c))++
 ((
  List.range a.n).flatMap λ(b:Nat)=>(fV (b+1) a.n).flatMap λ(c:Nat)=>
  if a.GT b c=true then(List.range a.n).flatMap λ(d:Nat)=>(fV d a.n).flatMap λ(e:Nat)=>ig a.vG (gA b c d e)else [])
theorem yZ{a b:Nat}(c:a<=b):List.range b=List.range a++List.range' a (b-a):=by
 rw[List.range_eq_range',List.range_eq_range',show b=a+(b-a)by omega,<-List.range'_append_1]
 simp
theorem p8{b e:Type}{l:List b}{a:b->List e}(c:∀d∈l,a d=[]):l.flatMap a=[]:=by
 rw[List.flatMap_eq_nil_iff];exact c
theorem mr{f j:Type}{a:List f}{c d:f->List j}(e:∀b∈a,c b=d b):a.flatMap c=a.flatMap d:=by
 induction a with
 |nil=>rfl
 |cons b a h=>simp only[aO];rw[e b (by simp),h λi g=>e i (by simp[g])]
theorem GX.DG(a:GX):a.mI=a.mV:=by
 have p:a.vG=a.vR:=funext a.Tk
 unfold GX.mI GX.mV
 rw[p]
 congr 1
 ·congr 1
  ·congr 1
   ·refine mr λb h=> ?_
    rw[cU]at h
    rw[yZ (show b+1<=a.n by omega),cM]
    rw[p8 (l:=List.range (b+1)),cy];rfl
    intro d i
    rw[cU]at i
    unfold ig
    rw[ao]
    unfold GX.vR gR GX.O8
    have:¬((b:Int)<d):=by omega
    simp[this]
   ·exact mr λb h=>by rw[GX.NT]
  ·refine mr λb h=> ?_
   rw[cU]at h
   rw[yZ (show b<=a.n by omega),cM,p8 (l:=List.range' b (a.n-b)),bL]
   intro d i
   rw[List.mem_range'_1]at i
   unfold ig
   rw[ao]
   unfold GX.vR gL GX.Nv
   have:¬((d:Int)<b):=by omega
   simp[this]
 ·refine mr λb h=>mr λd i=> ?_
  have none:∀{m:Prop},(∀f g,a.vR (gA b d f g)=true->m)->¬m->((List.range a.n).flatMap λ(f:Nat)=>(fV f a.n).flatMap λ(g:Nat)=>ig a.vR (gA b d f g))=[]:=by
   intro m c o
   refine p8 λf _=>p8 λg _=> ?_
   unfold ig
   exact ao λq=>o (c f g q)
  by_cases j:a.GT b d=true
  ·rw[aq j]
   by_cases k:(a.e b).dA=(a.e d).dA/\lq (a.e b)=true/\lq (a.e d)=true
   ·rw[aq k]
   ·rw[ao k]
    refine none (λf g c=> ?_) k
    unfold GX.vR gA at c
    simp only[show¬((4:Int)=2)by omega,show¬((4:Int)=1)by omega,show¬((4:Int)=3)by omega,bm,aY]at c
    split at c
    ·unfold GX.GS j7 at c
     simp only[ay,aL]at c
     obtain⟨_,⟨⟨⟨⟨⟨⟨⟨_,_⟩,r⟩,_⟩,_⟩,s⟩,t⟩,_⟩,_⟩:=c
     exact⟨r,s.1.1.1,t.1.1.2⟩
    ·simp at c
  ·rw[ao j]
   split
   ·symm
    refine none (λf g c=> ?_) j
    rw[<-GX.Tk]at c
    unfold GX.vG gA at c
    simp only[show¬((4:Int)=2)by omega,show¬((4:Int)=1)by omega,show¬((4:Int)=3)by omega,bm,aY]at c
    simp only[ay]at c
    exact c.1.2
   ·rfl
def kI(a:dN):Int:=if a.kind=18 then a.value else-1
def rk(b:dJ)(a:dN):Bool:=if a.kind=1\/a.kind=2 then decide (a.iF=-1)else(match wi b.gW a.iF with|some c=>decide (c.dA=a.dA)|none=>false)
def sizeOf(b:dJ)(a:Int):Int:=((wi b.cells a).getD default).size
def JB(b:dJ)(a:dN):Bool:=decide (a.mt=[])||decide (a.kind=5)||(lq a&& !decide (sizeOf b a.obj=0))
def Jw(a:dN):Bool:=decide (a.uI=[])||decide (a.kind=4)||decide (a.kind=22)
def qC(c:dJ)(b:dW)(a:dN):Bool:=
 tO c b&&iI a.dA c.dp.length&&(decide (1<=a.kind)&&decide (a.kind<=23))&&jo c b.fW a.dA a.kind a.obj&&rk c a&&JB c a&&Jw a&&
  wI (b.count.getD a.dA.toNat 0) none a.mt&&wI (b.count.getD a.dA.toNat 0) none a.uI&&m7 b a
def mm(c:dJ)(b:dW)(a:dN):dW:=
 ⟨(dV c b.fW a.dA a.kind a.obj (kI a)).1,if a.kind=4 then b.cells.set a.obj.toNat a.value else b.cells,if a.kind=22 then b.dR.set a.obj.toNat a.value else b.dR,b.count.modify a.dA.toNat (· +1)⟩
def s7:dW:=⟨⟨[],0,[],[]⟩,[],[],[]⟩
def jO(c:dJ)(b:dW)(a:dN):dW×Bool:=if qC c b a=true then(mm c b a,true)else(s7,false)
section
variable {S E:Type}
def qr(ok:S->E->Bool)(nx:S->E->S):S->List E->Bool
 |_,[]=>true
 |s,a::b=>ok s a&&qr ok nx (nx s a) b
def ta(nx:S->E->S):S->List E->List S
 |_,[]=>[]
 |s,a::b=>s::ta nx (nx s a) b
def vI(go:S->E->S):S->List E->S
 |s,[]=>s
 |s,a::b=>vI go (go s a) b
def QR{a:Type}(d:a->E->Bool)(b:a->E->a):a->List E->aa (List a)
 |_,[]=>some []
 |s,c::e=>if d s c=true then(QR d b (b s c) e).map (s:: ·)else none
variable {ok:S->E->Bool}{nx go:S->E->S}
theorem Ht:∀(a:List E) (b:S),(ta nx b a).length=a.length:=by
 intro a
 induction a with
 |nil=>intro b;rfl
 |cons d a c=>intro b;simp[ta,c]
theorem Kn(f:∀a b,ok a b=true->go a b=nx a b):∀(c d:List E) (a:S),qr ok nx a (c++d)=(qr ok nx a c&&qr ok nx (vI go a c) d):=by
 intro c
 induction c with
 |nil=>intro d a;simp[qr,vI]
 |cons b c g=>
  intro d a
  simp only[cB,qr,vI]
  cases e:ok a b with
  |true=>rw[g,f a b e,bM,bM]
  |false=>simp
theorem OI:∀(a b:List E) (c:S),vI go c (a++b)=vI go (vI go c a) b:=by
 intro a
 induction a with
 |nil=>intro b c;rfl
 |cons e a d=>intro b c;simp only[cB,vI,d]
theorem Hu(g:∀a d,ok a d=true->go a d=nx a d):∀(c:List E) (a:S) (b:Nat),qr ok nx a c=true->b<c.length->(ta nx a c)[b]? =some (vI go a (c.take b)):=by
 intro c
 induction c with
 |nil=>intro a b _ f;simp at f
 |cons d c h=>
  intro a b e f
  simp only[qr,ay]at e
  cases b with
  |zero=>simp[ta,vI]
  |succ b=>
   simp only[ta,cZ,List.take_succ_cons,vI]
   rw[g a d e.1]
   exact h _ b e.2 (by simpa using f)
theorem LU(g:∀b a,ok b a=true->go b a=nx b a):∀(d:List E) (b:S) (c:Nat) (a:E),qr ok nx b d=true->d[c]? =some a->ok (vI go b (d.take c)) a=true:=by
 intro d
 induction d with
 |nil=>intro b c a _ e;simp at e
 |cons i d h=>
  intro b c a f e
  simp only[qr,ay]at f
  cases c with
  |zero=>simp at e;subst e;simpa[vI]using f.1
  |succ c=>
   simp only[List.take_succ_cons,vI]
   rw[g b i f.1]
   exact h _ c a f.2 (by simpa using e)
theorem Lr{d:Type}{g:d->E->Bool}{f:d->E->d}{pr:S->d}(h:∀a b,ok a b=true->g (pr a) b=true)(i:∀a b,pr (nx a b)=f (pr a) b):∀(c:List E) (a:S),qr ok nx a c=true->QR g f (pr a) c=some ((ta nx a c).map pr):=by
 intro c
 induction c with
 |nil=>intro a _;rfl
 |cons b c j=>
  intro a e
  simp only[qr,ay]at e
  simp only[QR,ta,aU]
  rw[aq (h a b e.1),<-i,j _ e.2];rfl
theorem OH{I:S->Prop}(e:∀a c,I a->I (go a c)):∀(b:List E) (a:S),I a->I (vI go a b):=by
 intro b
 induction b with
 |nil=>intro a d;exact d
 |cons c b f=>intro a d;exact f _ (e a c d)
end
def runs(a:dJ):dW->List dN->Bool:=qr (qC a) (mm a)
def I4(a:dJ):dW->List dN->List dW:=ta (mm a)
def uh(w:dJ):dW->List dN->dW:=vI λb a=>(jO w b a).1
theorem rZ{c:dJ}(b:dW)(a:dN)(d:qC c b a=true):(jO c b a).1=mm c b a:=by unfold jO;rw[aq d]
theorem Kk(c:dJ)(a:List dN)(b:dW):(I4 c b a).length=a.length:=Ht a b
theorem E2(b:dJ)(c d:List dN)(a:dW):runs b a (c++d)=(runs b a c&&runs b (uh b a c) d):=Kn (go:=λa e=>(jO b a e).1) rZ c d a
theorem x8{e:dJ}{a:List dN}{d:dW}(b:runs e d a=true)(c:Nat):runs e d (a.take c)=true:=by
 rw[<-cK c a,E2,ay]at b
 exact b.1
theorem LT{c:dJ}{a:List dN}{f:dW}(d:runs c f a=true)(b e:Nat):runs c (uh c f (a.take b)) ((a.drop b).take e)=true:=by
 rw[<-cK b a,E2,ay]at d
 exact x8 d.2 e
theorem Kl{d:dJ}(b:List dN)(a:dW)(c:Nat)(f:runs d a b=true)(g:c<b.length):(I4 d a b)[c]? =some (uh d a (b.take c)):=Hu (go:=λa e=>(jO d a e).1) rZ b a c f g
theorem Pq{d:dJ}(c:List dN)(b:dW)(e:Nat)(a:dN)(f:runs d b c=true)(g:c[e]? =some a):qC d (uh d b (c.take e)) a=true:=LU (go:=λb a=>(jO d b a).1) rZ c b e a f g
theorem sw{c:dJ}{d:dW}{a:dN}(b:qC c d a=true):tO c d=true/\iI a.dA c.dp.length=true/\jo c d.fW a.dA a.kind a.obj=true:=by
 unfold qC at b
 simp only[ay]at b
 exact⟨b.1.1.1.1.1.1.1.1.1,b.1.1.1.1.1.1.1.1.2,b.1.1.1.1.1.1.2⟩
def Vz(c:dJ):ej->List dN->aa (List ej):=QR (λb a=>jo c b a.dA a.kind a.obj) λb a=>(dV c b a.dA a.kind a.obj (kI a)).1
theorem OB{c:dJ}(b:List dN)(a:dW)(d:runs c a b=true):Vz c a.fW b=some ((I4 c a b).map dW.fW):=
 Lr (pr:=dW.fW) (λa f e=>(sw e).2.2) (λ_ _=>rfl) b a d
structure ue(w:dZ):Prop where
 len:w.dw.length<=16
 oc:w.d8.dp.length<=4
 run:runs w.d8 w.lY w.dw=true
 Dc:w.lY.fW.Dc
def dZ.gx(c:dZ):GX:=⟨c.d8,c.dw,(I4 c.d8 c.lY c.dw).map dW.fW⟩
theorem ue.ok{a:dZ}(b:ue a){i:Nat}{e:dN}(c:a.dw[i]? =some e):qC a.d8 (uh a.d8 a.lY (a.dw.take i)) e=true:=Pq _ _ _ _ b.run c
theorem ue.st{a:dZ}(c:ue a){b:Nat}(d:b<a.dw.length):a.gx.st[b]? =some (uh a.d8 a.lY (a.dw.take b)).fW:=by
 unfold dZ.gx
 rw[aT,Kl _ _ _ c.run d];rfl
theorem ue.e{a:dZ}(d:ue a){i:Int}(g:iI i a.dw.length=true):∃e,a.dw[i.toNat]? =some e/\a.gx.e i=e/\iI e.dA a.d8.dp.length=true/\jn a.d8 e.kind e.obj=true:=by
 obtain⟨f,b⟩:=ed.1 g
 refine⟨a.dw[i.toNat],by simp[b],?_,?_⟩
 ·unfold GX.e pG wi dZ.gx
  rw[aq f];simp[b]
 ·have:=d.ok (i:=i.toNat) (e:=a.dw[i.toNat]) (by simp[b])
  obtain⟨_,h,c⟩:=sw this
  refine⟨h,?_⟩
  unfold jo at c
  simp only[ay]at c
  exact c.1.2
theorem ue.s{a:dZ}(c:ue a){i:Int}(g:iI i a.dw.length=true):a.gx.s i=(uh a.d8 a.lY (a.dw.take i.toNat)).fW/\mW a.d8 (a.gx.s i)=true:=by
 obtain⟨f,d⟩:=ed.1 g
 have h:=c.st d
 have b:a.gx.s i=(uh a.d8 a.lY (a.dw.take i.toNat)).fW:=by
  unfold GX.s wi
  rw[aq f,h];rfl
 refine⟨b,?_⟩
 rw[b]
 have:=(sw (c.ok (i:=i.toNat) (e:=a.dw[i.toNat]) (by simp[d]))).1
 unfold tO at this
 simp only[ay]at this
 exact this.1.1.1
theorem Hr{b:dJ}{a:dW}{c:dN}(d:a.fW.Dc):(jO b a c).1.fW.Dc:=by
 unfold jO
 split
 ·exact wX d b _ _ _ _
 ·intro e hl;simp[s7]at hl
theorem QT{d:dJ}(c:List dN)(a:dW)(b:a.fW.Dc):(uh d a c).fW.Dc:=OH (I:=λa=>a.fW.Dc) (λ_ _ b=>Hr b) c a b
def kF(a:dJ):ej:=⟨a.dP.map λ_=>⟨-1,[]⟩,-1,a.dR.map λ_=>false,(List.range a.dp.length).map λb=>⟨if b=0 then 1 else 0,0,false⟩⟩
def jE(a:dJ):dW:=⟨kF a,a.cells.map fN.lY,a.dR.map λ_=>0,a.dp.map λ_=>0⟩
theorem um(a:dJ):(jE a).fW.Dc:=by
 intro b hl
 unfold jE kF at hl
 simp only[List.mem_map]at hl
 obtain⟨_,_,rfl⟩:=hl
 exact List.Pairwise.nil
def vM(b:dJ)(c:List dN)(d a:Nat):dZ:=⟨b,a,uh b (jE b) (c.take a),(c.drop a).take d⟩
theorem LC{a:dJ}{d:List dN}(e:runs a (jE a) d=true)(ht:a.dp.length<=4){b:Nat}(f:b<=16)(c:Nat):ue (vM a d b c):=
 ⟨by simp[vM];omega,ht,LT e c b,QT _ _ (um a)⟩
end
noncomputable section
open Go Go.TI
attribute [-simp] List.map_take List.map_drop List.map_append fi ei dT Bool.not_or Bool.not_and
attribute [simp] fh ew
attribute [-simp] size_cons
def Lk(f:H)(d:Nat->Prop)(e:T)(c:dF):Prop:=∃a,e= .agg [.int .i64 c.iw,a]/\nz f 1 a (fD c.dQ)/\∀b,dE a=some b->d b
structure zO(lo hi:Nat)(h:H)(c0 c2 c3:T)(es:List T)(S:ej):Prop where
 g0:Gr h c0 2 es
 g2:Gr h c2 1 (S.done.map T.bool)
 g3:Gr h c3 3 (S.dp.map dx.t)
 el:gG (Lk h λc=>lo<=c/\c<hi/\dE c0≠some c/\dE c2≠some c/\dE c3≠some c) es S.dP
 b:∀c,(dE c0=some c\/dE c2=some c\/dE c3=some c)->lo<=c/\c<hi
def LJ(a:ej)(b c d:T):T:= .agg [b,.int .i64 a.tx,c,d]
def CC(a:ej)(b:List T)(c:H):Prop:=b=[a.t]/\gh 0 c/\a.dP.length<=1000000/\a.done.length<=1000000/\a.dp.length<=1000000/\∀d∈a.dP,d.dQ.length<=1000000
def HK(b:ej)(i:List T)(f:H)(h:T)(a:H):Prop:=∃c d e g,h=LJ b c d e/\zO f.size a.size a c d e g b/\Nb f a
structure C8(S:ej)(c2 c3:T)(h h':H)(i:Nat):Prop where
 ex:∃ver c0 es,qY h' (h.size+1+1+1+1) 4 ver [(c0,some (2,es)),(.int .i64 S.tx,none),(c2,some (1,S.done.map T.bool)),(c3,some (3,S.dp.map dx.t))]/\es.length=i/\
  gG (Lk h' λk=>h.size+1<k/\k<h'.size/\¬Fp h' (h.size+1+1+1+1) k) es (S.dP.take i)
 nb:Nb h h'
 l1:Lb (h.size+1+1+1+1) h' h.size ⟨4,0,0,true,false,[S.t]⟩
 l2:Lb (h.size+1+1+1+1) h' (h.size+1) ⟨4,0,0,true,false,[.agg [.dq [] false,.int .i64 0,.dq [] false,.dq [] false]]⟩
 lo:∀c,Fp h' (h.size+1+1+1+1) c->h.size+1<c
theorem FB:(jM ej CC HK).Ok Tryz.prog cx 154:=by
 refine iU (tb:=⟨pt [],ht []⟩) dX dU (iN 1048607 [(1,[(1,5),(5,6),(5,8),(1,9),(5,11),(9,11)]),(5,[(1,15),(3,15),(5,15),(7,15)])] Tryz.func154) (λ_ _=>1000005) (λz I b eh=>by obtain⟨rfl,_⟩:=eh;simp[Tryz.f154]) ?_
 rintro c _ b ⟨rfl,eA,hl,eV,ht,hr⟩ G D
 simp at D
 have bs:=eA.hr
 obtain⟨p,C⟩:∃p:H,p=((TI.hr b).cons ⟨4,0,0,true,false,[c.t]⟩).cons ⟨4,0,0,true,false,[.agg [.dq [] false,.int .i64 0,.dq [] false,.dq [] false]]⟩:=⟨_,rfl⟩
 have eB:gh 0 p:=by subst C;exact(bs.cons _).cons _
 have eN:p.size=b.size+1+1:=by subst C;rfl
 have ey:Nb b p:=by subst C;exact⟨(((Nb.refl bs).cons _).cons _).ok,λa h=>((((Nb.refl bs).cons _).cons _).get a h).trans (fU b a)⟩
 have b9:p.get b.size=some ⟨4,0,0,true,false,[c.t]⟩:=by subst C;simp
 have dm:p.get (b.size+1)=some ⟨4,0,0,true,false,[.agg [.dq [] false,.int .i64 0,.dq [] false,.dq [] false]]⟩:=by subst C;simp
 obtain⟨a7,o,J,⟨e6,eO,gA⟩,aN,m,P⟩:=kj (cx:=cx) eB (x:=sl (c.done.map T.bool)) (xs:=c.done.map T.bool) Ix rfl SZ Ix rfl rfl (by simp) (by simp) (λe ea=>by obtain⟨n,_,rfl⟩:=List.mem_map.1 ea;rfl) (by simp;omega)
 obtain⟨L,k,K,⟨eI,dk,ca⟩,e7,O,okB⟩:=kj (cx:=cx) P (x:=sl (c.dp.map dx.t)) (xs:=c.dp.map dx.t) Ev rfl Ew Ev rfl rfl (by simp) (by simp) (by simp) (by simp;omega)
 have b6:o.size=b.size+1+1+1:=by omega
 have X:k.size=b.size+1+1+1+1:=by omega
 have V:∀n,n<p.size->dY (p.cons ⟨1,0,0,true,false,[]⟩) o n=true:=λn S=>ee ((m n S).trans (by rw[dH,ao (by omega)]))
 have c4:∀n,n<o.size->dY (o.cons ⟨3,0,0,true,false,[]⟩) k n=true:=λn S=>ee ((O n S).trans (by rw[dH,ao (by omega)]))
 have bz:=V b.size (by omega)
 have c6:=c4 b.size (by omega)
 have bN:dY (p.cons ⟨1,0,0,true,false,[]⟩) o (b.size+1+1+1+1)=true:=jq (mZ _ (by simp;omega))
 have c7:dY (o.cons ⟨3,0,0,true,false,[]⟩) k (b.size+1+1+1+1)=true:=jq (mZ _ (by simp;omega))
 have bB:dY (p.cons ⟨1,0,0,true,false,[]⟩) o (b.size+1+1+1)=true:=jq (mZ _ (by simp;omega))
 have bi:=(m b.size (by omega)).trans b9
 have ds:=(O b.size (by omega)).trans bi
 simp[C]at J
 simp[b6]at K
 rw[C]at bz bB bN
 simp[Tryz.f154,D,J,K,bz,bB,c6,bN,c7,bi,b6,X]
 have de:=(show Gr k (.arr (b.size+1+1) a7 0 c.done.length false) 1 (c.done.map T.bool)by
  have:=Gr.new ((O p.size (by omega)).trans gA);rw[eN]at this;simpa using this)
 have di:=(show Gr k (.arr (b.size+1+1+1) L 0 c.dp.length false) 3 (c.dp.map dx.t)by
  have:=Gr.new ca;rw[b6]at this;simpa using this)
 have eu:Nb b k:=⟨⟨okB.hp,okB.low,by omega⟩,λa h=>(O a (by omega)).trans ((m a (by omega)).trans (ey.get a h))⟩
 have eL:=(O b.size (by omega)).trans ((m b.size (by omega)).trans b9)
 have eM:=(O (b.size+1) (by omega)).trans ((m (b.size+1) (by omega)).trans dm)
 have er:k.low<=b.size+1+1+1+1:=by have:=okB.low;omega
 have b7:∀a,dE (.arr (b.size+1+1) a7 0 c.done.length false)=some a->a=b.size+1+1:=λa q=>by simpa using q.symm
 have b8:∀a,dE (.arr (b.size+1+1+1) L 0 c.dp.length false)=some a->a=b.size+1+1+1:=λa q=>by simpa using q.symm
 clear J K V c4 bz bB bN c6 c7 bi ds gA ca
 generalize T.arr (b.size+1+1) a7 0 c.done.length false=r at*
 generalize T.arr (b.size+1+1+1) L 0 c.dp.length false=s at*
 refine eQ c.dP.length (by omega) (λz G i=>C8 c r s b i z/\TI.dt G 1=some (.ptr b.size 0 0 0)/\TI.dt G 2=some (.ptr (b.size+1) 0 0 0)/\TI.dt G 3=some (.ptr (b.size+1+1+1+1) 0 0 0)/\TI.dt G 4=some (.int .i64 z)) ?_ ?_ (by omega) ?_
 ·rintro z G i an dv ⟨⟨⟨eH,A,B,d,cb,Y⟩,N,l1,l2,av⟩,o,k,Z,ae⟩
  have M:=d.get
  simp at M
  obtain⟨l,al⟩:∃l,c.dP[z]? =some l:=⟨_,aB an⟩
  have eX:=hr l (az al)
  obtain⟨L,R,J,⟨eI,dk,gA⟩,aN,m,P⟩:=kj (cx:=cx) d.ok (x:=sl (fD l.dQ)) (xs:=fD l.dQ) jQ rfl mJ jQ rfl rfl (by simp) (by simp) (by simp[T.cells]) (by simp;omega)
  have eE:Step (b.size+1+1+1+1) i R:=(Nb.mk ⟨P.hp,P.low,by omega⟩ m:Nb i R).step d.lt
  have c9:=d.step P λa h=>m a (d.fp a h)
  obtain⟨eF,eU,K,bX⟩:=(c9.gr 0 rfl).uP (cx:=cx) P NX rfl JG rfl (by simp) (x:= .agg [.int .i64 l.iw,.arr i.size L 0 (fD l.dQ).length false]) rfl (by simp;omega)
  obtain⟨aA,e5,bu⟩:=c9.app 0 rfl bX
  obtain⟨W,dd⟩:=bu _ rfl
  simp at aA W dd
  simp[aN]at J K
  have V:∀a,a<i.size->dY (i.cons ⟨1,0,0,true,false,[]⟩) R a=true:=λa h=>ee ((m a h).trans (by rw[dH,ao (by omega)]))
  have et:(b.size=i.size)=False:=by have:=l1.lt;simp;omega
  have e4:(b.size+1+1+1+1=i.size)=False:=by have:=d.lt;simp;omega
  have eC:=V _ d.lt
  have eD:=V _ l1.lt
  have eR:=(m _ d.lt).trans M
  have eP:=(m _ l1.lt).trans l1.get
  simp[o,Z,ae,l1.get,M,an]
  have ef:c.dP[z]=l:=by rw[aB an]at al;simpa using al
  simp[o,k,Z,ae,an,ef,J,aN,K,aA,et,eC,eD,dG,bX.1.fT,bX.1.cells,dv]
  have w:=eE.trans W
  have e0:=w.ok.sz
  have eS:R.size=i.size+1:=aN
  refine⟨⟨_,eF,B++[.agg [.int .i64 l.iw,.arr i.size L 0 l.dQ.length false]],dd,by simp[cb],?_⟩,?_,l1.step w,l2.step w,λa h=> ?_⟩
  ·have eo:c.dP.take (z+1)=c.dP.take z++[l]:=by
    rw[List.take_add_one,al];rfl
   rw[eo]
   refine gG.append (Y.imp λe l ⟨bv,aX,a6,Q⟩=>⟨bv,aX,a6.mono λg j=> ?_,λg j=> ?_⟩) (.cons ⟨_,rfl,.inr ?_,λg j=> ?_⟩ .nil)
   ·obtain⟨bn,ap,F⟩:=Q g j
    exact w.get g ap F
   ·obtain⟨bn,ap,F⟩:=Q g j
    exact⟨bn,by omega,λf=>(w.fp g f).elim F λf=>by omega⟩
   ·have E:¬Fp R (b.size+1+1+1+1) i.size:=λf=>by
     rw[iH (m _ d.lt)]at f
     have:=d.fp _ f;omega
    have:=Gr.new ((W.get i.size (by omega) E).trans gA)
    simpa using this
   ·simp at j;subst j
    refine⟨by have:=l2.lt;omega,by have:=W.ok.sz;omega,λf=> ?_⟩
    rcases W.fp _ f with f|f
    ·rw[iH (m _ d.lt)]at f
     have:=d.fp _ f;omega
    ·omega
  ·refine⟨⟨w.ok.hp,w.ok.low,by have:=N.ok.sz;omega⟩,λa h=> ?_⟩
   exact(w.get a (by have:=N.ok.sz;omega) λf=>by have:=av a f;omega).trans (N.get a h)
  ·rcases w.fp a h with f|f
   ·exact av a f
   ·have:=l2.lt;omega
 ·rintro G i ⟨⟨⟨eH,A,B,d,cb,Y⟩,N,l1,l2,av⟩,o,k,Z,ae⟩
  have M:=d.get
  simp at M
  rw[aQ]at Y
  have dn:∀y,(dI i (b.size+1) y).get (b.size+1)=some y:=λy=>(dy l2.get y _).trans (aq rfl)
  have aE:=d.uf l2 ⟨4,0,1,true,false,[.agg [A,.int .i64 c.tx,r,s]]⟩
  simp[o,k,Z,ae,l1.get,l2.get,M,dG,dn]
  have bT:=aE.step (aE.ok.out b) λa _=>fj b _ a
  have cp:(A,some (2,B))∈ [(A,some (2,B)),((.int .i64 c.tx:T),(none:aa (Nat×List T))),(r,some (1,c.done.map T.bool)),(s,some (3,c.dp.map dx.t))]:=by simp
  have cL:(r,some (1,c.done.map T.bool))∈ [(A,some (2,B)),((.int .i64 c.tx:T),(none:aa (Nat×List T))),(r,some (1,c.done.map T.bool)),(s,some (3,c.dp.map dx.t))]:=by simp
  have cX:(s,some (3,c.dp.map dx.t))∈ [(A,some (2,B)),((.int .i64 c.tx:T),(none:aa (Nat×List T))),(r,some (1,c.done.map T.bool)),(s,some (3,c.dp.map dx.t))]:=by simp
  refine⟨A,r,s,B,rfl,⟨bT.gr 0 rfl,bT.gr 2 rfl,bT.gr 3 rfl,Y.imp λe l ⟨bv,aX,a6,Q⟩=>⟨bv,aX,a6.mono λg j=> ?_,λg j=> ?_⟩,λg j=> ?_⟩,⟨⟨(aE.ok.out b).hp,(aE.ok.out b).low,by simp;exact N.ok.sz⟩,λg j=> ?_⟩⟩
  ·rw[fj,dy l2.get,ao (by have:=(Q g j).1;omega)]
  ·obtain⟨bn,ap,F⟩:=Q g j
   exact⟨by omega,by simpa using ap,λq=>F (d.Ij cp q),λq=>F (d.Ij cL q),λq=>F (d.Ij cX q)⟩
  ·have E:Fp i (b.size+1+1+1+1) g:=by
    rcases j with q|q|q
    ·exact d.Ij cp q
    ·exact d.Ij cL q
    ·exact d.Ij cX q
   have:=d.fp g E
   have:=av g E
   exact⟨by omega,by simpa⟩
  ·rw[fj,dy l2.get,ao (by omega)];exact N.get g j
 ·have bp:∀(u:Nat) (I:T×aa (Nat×List T)) a,[(T.dq [] false,some (2,[])),((.int .i64 c.tx:T),(none:aa (Nat×List T))),(r,some (1,c.done.map T.bool)),(s,some (3,c.dp.map dx.t))][u]? =some I->dE I.1=some a->a=b.size+u:=λu I a D q=>by
   rcases u with _|_|_|_|u<;>simp at D<;>subst D
   ·simp at q
   ·simp at q
   ·have:=b7 a q;omega
   ·have:=b8 a q;omega
  have c1:qY (k.cons ⟨4,0,1,true,false,[.agg [.dq [] false,.int .i64 c.tx,r,s]]⟩) (b.size+1+1+1+1) 4 1 [(T.dq [] false,some (2,[])),(.int .i64 c.tx,none),(r,some (1,c.done.map T.bool)),(s,some (3,c.dp.map dx.t))]:=by
   refine⟨okB.cons _,by simp[X],λf E=> ?_,λu g eW I n D S a aA bu=> ?_⟩
   ·simp only[cv,df,or_false]at E
    rcases E with rfl|rfl|rfl|rfl
    ·exact⟨Gr.nil _ _,show(2:Nat)≠4 by decide⟩
    ·show dE _=none;simp
    ·exact⟨de.mono λa h=>by have:=b7 a h;rw[dH,ao (by rw[X];omega)],show(1:Nat)≠4 by decide⟩
    ·exact⟨di.mono λa h=>by have:=b8 a h;rw[dH,ao (by rw[X];omega)],show(3:Nat)≠4 by decide⟩
   ·have:=bp u I a D aA
    have:=bp g n a S bu
    omega
  have a8:∀a,Fp (k.cons ⟨4,0,1,true,false,[.agg [.dq [] false,.int .i64 c.tx,r,s]]⟩) (b.size+1+1+1+1) a->b.size+1<a:=λa h=>by
   rcases h with q|⟨x,bk,v,ce,q⟩
   ·omega
   ·rw[c1.get]at bk;simp only[ar]at bk;subst bk
    simp only[d6,aO,cg,bL,T.cells]at ce
    obtain⟨f,eb,rfl⟩:=List.mem_map.1 ce
    obtain⟨u,U⟩:=cT eb
    have j:=bp u f a U q
    rcases u with _|_|u
    ·simp at U;subst U;simp at q
    ·simp at U;subst U;simp at q
    ·omega
  simp[X,er]
  refine⟨⟨_,_,[],c1,rfl,.nil⟩,eu.cons _,⟨?_,λq=> ?_⟩,⟨?_,λq=> ?_⟩,a8⟩
  ·rw[dH,ao (by omega)];exact eL
  ·have:=a8 _ q;omega
  ·rw[dH,ao (by omega)];exact eM
  ·have:=a8 _ q;omega
structure Ac(h0 h':H)(v:T)(l:List Int):Prop where
 nb:Nb h0 h'
 g:Gr h' v 1 (fD l)
 lo:∀c,dE v=some c->h0.size<=c
theorem Ac.start{a:H}(b:gh 0 a):Ac a a (.dq [] false) []:=⟨Nb.refl b,Gr.nil _ _,λd c=>by simp at c⟩
theorem Ac.nY{m h:H}{n:T}{j:List Int}(a:Ac m h n j)(l:Int)(s:j.length<=10000000):∃d c,iu cx (h.cons ⟨1,0,0,true,false,[.int .i64 l]⟩) 38 38 n (.arr h.size 0 0 1 false)=some (.val d c)/\Ac m c d (j++[l]):=by
 obtain⟨d,c,e,o,p,r,k⟩:=a.g.nY (cx:=cx) (f:=T.int .i64) ⟨a.nb.ok.hp,a.nb.ok.low,aw _⟩ jQ rfl mJ rfl (by simp) (λ_=>rfl) l (by simp;omega)
 have:=a.nb.ok.sz
 refine⟨d,c,e,⟨⟨k.hp,k.low,aS a.nb.ok.sz k.sz⟩,λb i=>(p b (by omega) λq=>by have:=a.lo b q;omega).trans (a.nb.get b i)⟩,o,λb i=> ?_⟩
 rcases r b i with q|q
 ·exact a.lo b q
 ·omega
theorem Ac.FI{a c:H}{l:T}{i:List Int}{h:H}(e:Ac h c l i)(j:Nb a h):QY a (kV a c) l i:=by
 have d:=j.trans e.nb
 have k:gh 0 c:=⟨d.ok.hp,d.ok.low,aw _⟩
 have:=j.ok.sz
 exact⟨.inr (e.g.out a),⟨⟨(k.out a).hp,(k.out a).low,d.ok.sz⟩,λb f=>(fj a c b).trans (d.get b f)⟩,λb f=>by have:=e.lo b f;omega⟩
structure IWt where
 (S:ej) (c0 c2 c3:T) (c:Int)
def Sj(a:IWt)(d:List T)(b:H):Prop:=d=[LJ a.S a.c0 a.c2 a.c3,.int .i64 a.c]/\Gr b a.c3 3 (a.S.dp.map dx.t)/\a.S.dp.length<=1000000/\gh 0 b
def Mi(a:IWt)(f:List T)(b:H)(e:T)(d:H):Prop:=QY b d e (gu a.c a.S.dp 0)
theorem Hi(c:Int)(b:List dx)(a:Nat)(d:a<b.length):gu c (b.drop a) a=if b[a].im=3/\b[a].cond=c then(a:Int)::gu c (b.drop (a+1)) (a+1)else gu c (b.drop (a+1)) (a+1):=by
 rw[aJ d,gu]
theorem AW:(jM IWt Sj Mi).Ok Tryz.prog cx 153:=by
 refine iU (tb:=⟨pt [],ht []⟩) dX dU (iN 1073743991 [] Tryz.func153) (λ_ _=>1000005) (λi d a P=>by obtain⟨rfl,_⟩:=P;simp[Tryz.f153]) ?_
 rintro⟨b,k,l,c,j⟩ _ a ⟨rfl,o,hl,z⟩ m D
 simp only at o hl
 simp[LJ]at D
 obtain⟨L,f⟩:=D
 have R:=z.hr.cons ⟨4,0,0,true,false,[.agg [k,.int .i64 b.tx,l,c]]⟩
 have K:Gr ((hr a).cons ⟨4,0,0,true,false,[.agg [k,.int .i64 b.tx,l,c]]⟩) c 3 (b.dp.map dx.t):=o.mono λe r=>by
  obtain⟨_,_,_,_,A,_⟩:=o.box r
  rw[dH,ao (by have:=H.dL A;simp;omega),fU]
 have l3:∀e,dE c=some e->e<a.size:=λe r=>by obtain⟨_,_,_,_,A,_⟩:=o.box r;exact H.dL A
 have w:=λf:H=>o.len (cx:=cx) f Kf _ rfl
 rw[aH]at w
 simp[Tryz.f153,L]
 have B:((hr a).cons ⟨4,0,0,true,false,[.agg [k,.int .i64 b.tx,l,c]]⟩).get a.size=some ⟨4,0,0,true,false,[.agg [k,.int .i64 b.tx,l,c]]⟩:=by simp
 have Q:Nb a ((hr a).cons ⟨4,0,0,true,false,[.agg [k,.int .i64 b.tx,l,c]]⟩):=⟨((Nb.refl z.hr).cons _).ok,λj O=>(((Nb.refl z.hr).cons _).get j O).trans (fU a j)⟩
 have al:((hr a).cons ⟨4,0,0,true,false,[.agg [k,.int .i64 b.tx,l,c]]⟩).size=a.size+1:=rfl
 generalize X:(hr a).cons ⟨4,0,0,true,false,[.agg [k,.int .i64 b.tx,l,c]]⟩=M at*
 refine eQ b.dp.length (by omega) (λh m h'=>∃s n,Ac M h' s n/\n.length<=h/\n++gu j (b.dp.drop h) h=gu j b.dp 0/\TI.dt m 1=some (.int .i64 j)/\TI.dt m 2=some (.ptr a.size 0 0 0)/\TI.dt m 5=some s/\TI.dt m 6=some (.int .i64 h)) ?_ ?_ (by omega) ⟨_,_,Ac.start R,aw _,rfl,by simp[f]⟩
 ·rintro h m h' x E ⟨s,n,d,N,g,f,p,u,q⟩
  have v:=(d.nb.get a.size (by omega)).trans B
  obtain⟨e,U,Z,V,ae,T,G,I,C⟩:=(K.mono (h':=h') λe r=>d.nb.get e (by have:=l3 e r;omega)).NA (te:=EW) rfl (i:=h) (by simpa using x)
  simp at C
  rw[Hi j _ _ x]at g
  simp[f,p,q,w,x,v,G,I,C]
  generalize b.dp[h]=Y at*
  refine dM (λy=> ?_) (λy=> ?_)
  ·rw[aq (by simpa using y)]at g
   obtain⟨S,W,J,F⟩:=d.nY (h:Int) (by omega)
   simp[f,p,u,q,J,E]
   exact⟨S,_,F,by simp;omega,by simpa using g,rfl⟩
  ·rw[ao (by simpa using y)]at g
   simp[f,p,u,q,E]
   exact⟨s,n,d,by omega,g,rfl⟩
 ·rintro m h' ⟨s,n,d,N,g,f,p,u,q⟩
  have v:=(d.nb.get a.size (by omega)).trans B
  simp[gu]at g
  subst g
  simp[p,u,q,w,v]
  exact d.FI Q
structure IWo where
 (l:List Int) (v:T) (n:Int)
def Sk(a:IWo)(d:List T)(b:H):Prop:=d=[a.v,.int .i64 a.n]/\nz b 1 a.v (fD a.l)/\(∀c,dE a.v=some c->c<b.size)/\a.l.length<=1000000/\gh 0 b
def Mj(a:IWo)(f:List T)(b:H)(d:T)(c:H):Prop:=QY b c d (a.l.filter λe=> !decide (e=a.n))
theorem HN:(jM IWo Sk Mj).Ok Tryz.prog cx 156:=by
 refine iU (tb:=⟨pt [],ht []⟩) dX dU (iN 263283 [] Tryz.func156) (λ_ _=>1000005) (λi f h E=>by obtain⟨rfl,_⟩:=E;simp[Tryz.f156]) ?_
 rintro⟨l,I,r⟩ _ h ⟨rfl,t,z,hl,s⟩ e w
 simp only at t z hl
 simp at w
 obtain⟨c,a⟩:=w
 have F:Nb h (hr h):=⟨⟨s.hr.hp,s.hr.low,au _⟩,λj _=>fU h j⟩
 have o:=λa:H=>t.len (cx:=cx) a m8 _ rfl
 rw[aH]at o
 simp[Tryz.f156]
 refine eQ l.length (by omega) (λd e h'=>∃m g,Ac (hr h) h' m g/\g.length<=d/\g++(l.drop d).filter (λx=> !decide (x=r))=l.filter (λx=> !decide (x=r))/\TI.dt e 0=some I/\TI.dt e 1=some (.int .i64 r)/\TI.dt e 5=some m/\TI.dt e 6=some (.int .i64 d)) ?_ ?_ (by omega) ⟨_,_,Ac.start s.hr,aw _,rfl,by simp[c,a]⟩
 ·rintro d e h' p y ⟨m,g,f,C,b,c,a,n,k⟩
  obtain⟨K,u,v⟩:=(t.mono (h':=h') λj D=>(f.nb.get j (by simpa using z j D)).trans (fU h j)).idx (te:=Dj) rfl rfl (i:=d) (x:= .int .i64 l[d]) (by simp[p]) rfl
  rw[aJ p,List.filter_cons]at b
  simp[c,a,k,o,p,u,v]
  generalize l[d]=x at*
  refine dM (λq=> ?_) (λq=> ?_)
  ·rw[aq (by simpa using q)]at b
   obtain⟨G,J,B,A⟩:=f.nY x (by omega)
   simp[c,a,n,k,u,v,B,y]
   exact⟨G,_,A,by simp;omega,by simpa using b,rfl⟩
  ·rw[ao (by simpa using q)]at b
   simp[c,a,n,k,y]
   exact⟨m,g,f,by omega,b,rfl⟩
 ·rintro e h' ⟨m,g,f,C,b,c,a,n,k⟩
  simp at b
  subst b
  simp[c,n,k,o]
  exact f.FI F
end
noncomputable section
open Go Go.TI
attribute [-simp] List.map_take List.map_drop List.map_append fi ei dT Bool.not_or Bool.not_and
attribute [simp] fh ew
theorem ng{d:Type}{c:List d}{b:Nat}{a:d}(h:c[b]? =some a)(f:d->d):c.modify b f=c.set b (f a):=by
 apply cV
 intro g
 rw[List.getElem?_modify,cm]
 by_cases e:b=g
 ·subst e
  have hi:b<c.length:=by
   rcases aD b c.length with k|k
   ·exact k
   ·rw[aM k]at h;simp at h
  rw[h];simp[hi]
 ·rw[ao e];simp[e]
section
variable {lo hi hi':Nat}{h h':H}{c0 c2 c3:T}{es:List T}{S:ej}
theorem zO.mono(d:zO lo hi h c0 c2 c3 es S)(l:hi<=hi')(f:∀a,lo<=a->a<hi->h'.get a=h.get a):zO lo hi' h' c0 c2 c3 es S:=
 ⟨d.g0.mono λa c=>f a (d.b a (.inl c)).1 (d.b a (.inl c)).2,d.g2.mono λa c=>f a (d.b a (.inr (.inl c))).1 (d.b a (.inr (.inl c))).2,d.g3.mono λa c=>f a (d.b a (.inr (.inr c))).1 (d.b a (.inr (.inr c))).2,
   d.el.imp λk m ⟨j,g,i,e⟩=>⟨j,g,i.mono λa c=>f a (e a c).1 (e a c).2.1,λa c=>⟨(e a c).1,by have:=(e a c).2.1;omega,(e a c).2.2⟩⟩,λa c=>⟨(d.b a c).1,by have:=(d.b a c).2;omega⟩⟩
theorem zO.tx(a:zO lo hi h c0 c2 c3 es S)(c:Int):zO lo hi h c0 c2 c3 es {S with tx:=c}:=⟨a.g0,a.g2,a.g3,a.el,a.b⟩
theorem zO.oc(d:zO lo hi h c0 c2 c3 es S){e l n:Nat}{m:Bool}{o:List T}(r:dE c3=some e)(g:h.get e=some ⟨3,l,n,m,false,o⟩)(i:Nat)(k:dx):
 zO lo hi (dI h e ⟨3,l,n+1,m,false,o.set i k.t⟩) c0 c2 c3 es {S with dp:=S.dp.set i k}:=by
 have p:∀a,a≠e->(dI h e ⟨3,l,n+1,m,false,o.set i k.t⟩).get a=h.get a:=λa c=>by rw[dy g,ao c]
 refine⟨d.g0.mono λa c=>p a λf=> ?_,d.g2.mono λa c=>p a λf=> ?_,?_,d.el.imp λf w ⟨v,s,u,q⟩=>⟨v,s,u.mono λa c=>p a λf=>(q a c).2.2.2.2 (by rw[f];exact r),q⟩,d.b⟩
 ·subst f;obtain⟨_,_,_,_,j,_⟩:=d.g0.box c;rw[g]at j;simp at j
 ·subst f;obtain⟨_,_,_,_,j,_⟩:=d.g2.box c;rw[g]at j;simp at j
 ·have:=d.g3.setAt r g i k.t (h':=dI h e ⟨3,l,n+1,m,false,o.set i k.t⟩) (by rw[dy g,aq rfl])
  simpa[bV]using this
theorem zO.WP(d:zO lo hi h c0 c2 c3 es S){e l n:Nat}{m:Bool}{o:List T}(r:dE c2=some e)(g:h.get e=some ⟨1,l,n,m,false,o⟩)(i:Nat)(k:Bool):
 zO lo hi (dI h e ⟨1,l,n+1,m,false,o.set i (.bool k)⟩) c0 c2 c3 es {S with done:=S.done.set i k}:=by
 have p:∀a,a≠e->(dI h e ⟨1,l,n+1,m,false,o.set i (.bool k)⟩).get a=h.get a:=λa c=>by rw[dy g,ao c]
 refine⟨d.g0.mono λa c=>p a λf=> ?_,?_,d.g3.mono λa c=>p a λf=> ?_,d.el.imp λf v ⟨u,s,t,q⟩=>⟨u,s,t.mono λa c=>p a λf=>(q a c).2.2.2.1 (by rw[f];exact r),q⟩,d.b⟩
 ·subst f;obtain⟨_,_,_,_,j,_⟩:=d.g0.box c;rw[g]at j;simp at j
 ·have:=d.g2.setAt r g i (.bool k) (h':=dI h e ⟨1,l,n+1,m,false,o.set i (.bool k)⟩) (by rw[dy g,aq rfl])
  simpa[bV]using this
 ·subst f;obtain⟨_,_,_,_,j,_⟩:=d.g3.box c;rw[g]at j;simp at j
theorem zO.pA(e:zO lo hi h c0 c2 c3 es S){g m p:Nat}{n:Bool}{q:List T}(o:dE c0=some g)(i:h.get g=some ⟨2,m,p,n,false,q⟩)(f:Nat){rv:T}{k:dF}(hr:nz h 1 rv (fD k.dQ))(s:∀a,dE rv=some a->lo<=a/\a<hi/\dE c0≠some a/\dE c2≠some a/\dE c3≠some a):
 zO lo hi (dI h g ⟨2,m,p+1,n,false,q.set f (.agg [.int .i64 k.iw,rv])⟩) c0 c2 c3 (es.set f (.agg [.int .i64 k.iw,rv])) {S with dP:=S.dP.set f k}:=by
 have l:∀a,a≠g->(dI h g ⟨2,m,p+1,n,false,q.set f (.agg [.int .i64 k.iw,rv])⟩).get a=h.get a:=λa c=>by rw[dy i,ao c]
 refine⟨e.g0.setAt o i f _ (by rw[dy i,aq rfl]),e.g2.mono λa c=>l a λd=> ?_,e.g3.mono λa c=>l a λd=> ?_,e.el.set f ⟨rv,rfl,hr.mono λa c=>l a λd=>(s a c).2.2.1 (by rw[d];exact o),s⟩ λd v ⟨rv,t,u,r⟩=>⟨rv,t,u.mono λa c=>l a λd=>(r a c).2.2.1 (by rw[d];exact o),r⟩,e.b⟩
 ·subst d;obtain⟨_,_,_,_,j,_⟩:=e.g2.box c;rw[i]at j;simp at j
 ·subst d;obtain⟨_,_,_,_,j,_⟩:=e.g3.box c;rw[i]at j;simp at j
end
theorem zO.fz{lo hi:Nat}{h:H}{c0 c2 c3:T}{es:List T}{S:ej}(a:zO lo hi h c0 c2 c3 es S):TI.fz h c0=some (sl (S.dP.map dF.t))/\TI.fz h c2=some (sl (S.done.map T.bool))/\TI.fz h c3=some (sl (S.dp.map dx.t)):=by
 refine⟨?_,a.g2.fz (by simp),a.g3.fz (by simp)⟩
 exact a.g0.Gl (d:=4) (by omega) (a.el.Ul (f:=dF.t) λg j ⟨l,b,c,i⟩=>by
  subst b
  exact .inr (.inr ⟨_,_,rfl,.cons (fJ ..) (.cons (c.ft (d:=1) (V:=λ_=>True) (λm e=>by obtain⟨k,_,rfl⟩:=List.mem_map.1 e;simp) λ_ _=>trivial) .nil),rfl⟩))
theorem Hj{c:List Int}(h:G9 c)(d:Int):xZ c [d]=lf c d:=by
 have e:∀(a b:List Int),kU b a=a.foldl lf b:=by
  intro a
  induction a with
  |nil=>intro b;rfl
  |cons g a f=>intro b;show kU (sr b g) a=_;rw[f,AL];rfl
 unfold xZ
 rw[e,e];exact Kd h d
end
noncomputable section
open Go Go.TI
attribute [-simp] List.map_take List.map_drop List.map_append
def nc:fK:=⟨dJ×ej×Int×Int×Int,λa=>[a.1.t,a.2.1.t,.int .i64 a.2.2.1,.int .i64 a.2.2.2.1,.int .i64 a.2.2.2.2],λa=>a.1.fP.length<=1099511627776/\a.2.1.sm,λa=> .bool (jo a.1 a.2.1 a.2.2.1 a.2.2.2.1 a.2.2.2.2),λa c b=>by
 simp at b;rw[dJ.inj b.1,ej.inj b.2.1,b.2.2.1,b.2.2.2.1,b.2.2.2.2]⟩
def XW:eG:=⟨pt [(151,pN),(152,wx),(111,pU),(56,zu)],ht []⟩
@[simp] theorem acS:XW.p=pt [(151,pN),(152,wx),(111,pU),(56,zu)]:=id rfl
theorem FA:nc.Ok Tryz.prog cx 104:=by
 refine f8 (tb:=XW) dX dU (iN 13215461614728367217751695970865548304603543200842114553566203007 [] Tryz.func104) (λV=>1) (by simp[nc]) (by simp[nc,Tryz.f104]) ?_
 rintro⟨n,j,r,x,d⟩ ⟨hl,D⟩ X A
 simp[nc]at hl D A|-
 obtain⟨s,t,o,y,p⟩:=A
 cases k:mW n j with
 |false=>simp[Tryz.f104,s,t,tS,hl,k,jo]
 |true=>
  cases m:iI r n.dp.length with
  |false=>simp[Tryz.f104,s,t,o,tS,hl,k,Da,m,jo]
  |true=>
   cases f:jn n x d with
   |false=>simp[Tryz.f104,s,t,o,y,p,tS,hl,k,Da,m,Og,f,jo]
   |true=>
    obtain⟨E,T,F⟩:=nq k
    have B:=m
    rw[<-F]at B
    obtain⟨i,L,M⟩:=ij B
    have P:=dS (ed.1 m).1
    have hE:jo n j r x d=Ah n j r x d:=by simp[jo,k,m,f]
    have c:oQ j r=i:=by simp[oQ,M]
    rw[hE]
    simp[Tryz.f104,s,t,o,y,p,tS,hl,k,Da,m,Og,f,P,L]
    rcases sH f with rfl|rfl|rfl|rfl|rfl|rfl|rfl|rfl|rfl|g|g|g|g
    case inl|inr.inl|inr.inr.inl|inr.inr.inr.inl|inr.inr.inr.inr.inl|inr.inr.inr.inr.inr.inl|inr.inr.inr.inr.inr.inr.inl|inr.inr.inr.inr.inr.inr.inr.inl|inr.inr.inr.inr.inr.inr.inr.inr.inl=>
     by_cases b:i.im=2<;>simp[Ah,c,b]
    ·have a:=kr f g
     rw[<-E]at a
     obtain⟨l,q,u⟩:=ij a
     have h:=dS (ed.1 a).1
     have e:lN j d=l:=by simp[lN,u]
     have O:l.dQ.length<=1099511627776:=by have:=D.2.2.2 l (az q);omega
     by_cases b:i.im=2
     ·by_cases S:l.iw=-1<;>rcases g with rfl|rfl|rfl|rfl|rfl|rfl<;>simp[o,p,h,q,Ah,c,b,e,S,Lg,O]
     ·rcases g with rfl|rfl|rfl|rfl|rfl|rfl<;>simp[Ah,c,b]
    ·have a:=nd f g
     obtain⟨W,v,H⟩:=ij a
     have h:=dS (ed.1 a).1
     have w:=qO k v
     rw[<-E]at w
     obtain⟨l,q,u⟩:=ij w
     have C:=dS (ed.1 w).1
     have e:qQ n j d=l:=by simp[qQ,H,lN,u]
     by_cases b:i.im=2
     ·rcases g with rfl|rfl|rfl|rfl<;>simp[o,h,v,C,q,Ah,c,b,e]
     ·by_cases z:i.im=4
      ·by_cases I:i.cond=d<;>rcases g with rfl|rfl|rfl|rfl<;>simp[p,h,v,C,q,Ah,c,e,z,I]
      ·rcases g with rfl|rfl|rfl|rfl<;>simp[Ah,c,b,z]
    ·have a:=vi f g
     rw[<-F]at a
     obtain⟨U,Q,R⟩:=ij a
     have h:=dS (ed.1 a).1
     have e:oQ j d=U:=by simp[oQ,R]
     by_cases b:i.im=2
     ·by_cases N:d=r<;>rcases g with rfl|rfl<;>simp[p,h,Q,Ah,c,b,e,N]
     ·rcases g with rfl|rfl<;>simp[Ah,c,b]
    ·have a:=qh f g
     rw[<-T]at a
     obtain⟨G,J,K⟩:=ij a
     have h:=dS (ed.1 a).1
     have e:BE j d=G:=by simp[BE,K]
     by_cases b:i.im=2
     ·rcases g with rfl|rfl<;>simp[h,J,Ah,c,b,e]
     ·rcases g with rfl|rfl<;>simp[Ah,c,b]
theorem wT{f:eG}(ht:f.p 104=some nc)(b:dJ)(a:ej)(e c d:Int)(hl:b.fP.length<=1099511627776)(g:a.sm):rl Tryz.prog cx f 104 [b.t,a.t,.int .i64 e,.int .i64 c,.int .i64 d]=some (.bool (jo b a e c d)):=fR ht FA (b,a,e,c,d) ⟨hl,g⟩
end
end Go.Proofs.YtmaeadedikngoaaGreatDoor
