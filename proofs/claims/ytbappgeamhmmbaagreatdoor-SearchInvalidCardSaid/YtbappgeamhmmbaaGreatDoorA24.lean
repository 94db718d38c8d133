/- W07d -/
import Derived.Test.YtbappgeamhmmbaaGreatDoorA20
import Derived.Test.YtbappgeamhmmbaaGreatDoorA23
set_option linter.all false
set_option maxRecDepth 100000
set_option maxHeartbeats 0
namespace Go.Proofs.YtbappgeamhmmbaaGreatDoor
noncomputable section
open Go Go.TI Tryz
attribute [-simp] List.map_take List.map_drop List.map_append fj ez TI.d8 Bool.not_or Bool.not_and
attribute [simp] fh eG
section
attribute [-simp] size_cons
structure Sa where
 (i:fD) (s:dX) (a b:T) (es:List T) (lo hi N:Nat)
structure TOk(N r:Nat)(s:dX):Prop where
 rl:s.iF.length=r
 tl:s.jS.length=r
 tn:∀l∈s.jS,Tn N l
def M9(c:Sa)(e:List T)(d:H):Prop:=e=[c.i.t,AZ c.s c.a c.b]/\AJ c.lo c.hi d c.a c.b c.es c.s/\c.hi<=d.size/\gH 0 d/\1<=c.i.op/\c.i.op<=5/\TOk c.N c.s.iF.length c.s/\c.s.iF.length<=1000/\c.N<=1000000
def JM(a:Sa)(k:List T)(e:H)(j:T)(c:H):Prop:=∃d f g i h,j= .tuple [AZ d f g,.bool h]/\AJ a.lo c.size c f g i d/\(∀b,b<e.size->(b<a.lo\/a.hi<=b)->c.get b=e.get b)/\gH e.size c/\(h=true->TOk a.N a.s.iF.length d/\d.dI=a.s.dI)
def AJ.mono{g f lo' hi':Nat}{k h':H}{h i:T}{j:List T}{l:dX}(c:AJ g f k h i j l)(hl:lo'<=g)(n:f<=hi')(e:∀a,g<=a->a<f->h'.get a=k.get a):AJ lo' hi' h' h i j l:=
 ⟨c.ga.mono λa b=>e a (c.ba a b).1 (c.ba a b).2.1,c.gb.mono λa b=>e a (c.bb a b).1 (c.bb a b).2,c.el.imp λm o d=>⟨d.1.mono λa b=>e a (d.2 a b).1 (d.2 a b).2.1,λa b=>⟨by have:=(d.2 a b).1;omega,by have:=(d.2 a b).2.1;omega,(d.2 a b).2.2⟩⟩,λa b=>⟨by have:=(c.ba a b).1;omega,by have:=(c.ba a b).2.1;omega,(c.ba a b).2.2⟩,λa b=>⟨by have:=(c.bb a b).1;omega,by have:=(c.bb a b).2;omega⟩⟩
def AJ.same{h g:Nat}{f:H}{c d:T}{e:List T}{b s':dX}(a:AJ h g f c d e b)(i:s'.iF=b.iF)(j:s'.jS=b.jS):AJ h g f c d e s':=⟨by rw[i];exact a.ga,a.gb,by rw[j];exact a.el,a.ba,a.bb⟩
def AJ.zero(e d:Nat)(c:H):AJ e d c dw dw [] ⟨0,[],[],0⟩:=⟨Gr.nil _ _,Gr.nil _ _,.nil,λb a=>by simp at a,λb a=>by simp at a⟩
def NG:(jr Sa M9 JM).Ok prog cx 226:=by
 refine jn (tb:=⟨pt [(108,nq),(256,xi.ji),(255,Gd.ji),(257,DZ.ji)],ht [(167,jr IUn M8 If)]⟩) iB gW (iP 9904163146420522906957187071 [(20,[(2,4),(2,6),(2,7),(2,8)]),(10,[(2,4),(2,6),(2,7),(2,8),(2,10),(2,12),(2,13),(2,14)]),(22,[(1,11),(3,11),(5,11),(7,11),(5,13),(7,13)])] func226) (λ_ _=>100) (λi av g fv=>by obtain⟨rfl,_⟩:=fv;simp[f226]) ?_;rintro⟨i,j,av,aA,X,eo,fo,N⟩ _ g ⟨rfl,h,fm,de,fA,fB,C,hr,fe⟩ m ds;simp only at h fm fA fB C hr fe;simp[AZ]at ds;obtain⟨e9,fb⟩:=ds;simp[f226,e9,fb,ul];generalize ae:(((TI.hr g).cons _).cons _).cons _=z;have M:gH 0 z:=by rw[<-ae];exact((de.hr.cons _).cons _).cons _
 have gy:z.size=g.size+1+1+1:=by rw[<-ae];rfl
 have a8:Nb g z:=by rw[<-ae];exact⟨((((Nb.refl de.hr).cons _).cons _).cons _).ok,λd f=>(((((Nb.refl de.hr).cons _).cons _).cons _).get d f).trans (gu g d)⟩
 have W:z.get g.size=some (Z 6 0 [i.t]):=by rw[<-ae];simp
 have S:z.get (g.size+1)=some (Z 4 0 [.agg [D j.pC,av,aA,D j.dI]]):=by rw[<-ae];simp
 have O:z.get (g.size+1+1)=some (Z 4 0 [.agg [D 0,dw,dw,D 0]]):=by rw[<-ae];simp
 clear ae;have eh:=h.ga.len (cx:=cx) z Qq _ rfl;rw[aG]at eh;have e8:∀y,(dT z (g.size+1+1) y).get (g.size+1+1)=some y:=λy=>(dF O y _).trans (aq rfl);have gQ:=BF i;refine fc (iK i).length B (λk m h'=>z=h'/\dy m 2 (.ptr g.size 0 0 0)/\dy m 3 (.ptr (g.size+1) 0 0 0)/\dy m 4 (.ptr (g.size+1+1) 0 0 0)/\dy m 6 (sl (gF (iK i)))/\dy m 7 (D k)/\∀L∈(iK i).take k,0<=L/\L<j.iF.length) ?_ ?_ B J
 ·rintro k m _ a7 fi ⟨rfl,p,q,r,bu,bz,K⟩;have fC:(iK i).take (k+1)=(iK i).take k++[(iK i)[k]]:=aT a7;simp[p,q,r,bu,bz,a7,S,eh];generalize(iK i)[k]=L at*
  refine dV (λbC=>?_) (λbC=>?_)
  ·simp[p,q,r,bu,bz,O,e8,dN];refine⟨⟨0,[],[],0⟩,_,_,_,false,rfl,AJ.zero _ _ _,λd f _=>?_,⟨(M.put _ _).out g|>.hp,(M.put _ _).out g|>.low,dp⟩,J⟩;rw[fO,dF O,ao B];exact a8.get d f
  ·simp at bC;simp[p,q,r,bu,bz,fi,fC];intro x c7;rcases c7 with c7|rfl
   ·exact K x c7
   ·omega
 ·rintro m _ ⟨rfl,p,q,r,bu,bz,K⟩;rw[aJ]at K;simp[p,q,r,bu,bz,W];have b9:oQ z 1 av (gF j.iF):= .inr (h.ga.mono λd f=>a8.get d (by have:=(h.ba d f).2.1;omega));have ca:oQ z 1 aA X:= .inr (h.gb.mono λd f=>a8.get d (by have:=(h.bb d f).2;omega));have b8:∀L:Int,0<=L->L<j.iF.length->∃A e,j.jS[L.toNat]? =some A/\X[L.toNat]? =some e/\oQ z 1 e (gF A)/\Tn N A:=λL r0 r1=>by
   have a7:L.toNat<j.jS.length:=by have:=C.tl;omega
   have⟨e,b6,l⟩:=h.el.get (ay a7);exact⟨_,e,ay a7,b6,l.1.mono λd f=>a8.get d (by have:=(l.2 d f).2.1;omega),C.tn _ (aD a7)⟩
  refine lf (λm I=>∃(v:Int) (eI:T) (w:T) (ap:List Int),FE eI/\Nb z I/\oQ I 1 w (gF ap)/\Tn N ap/\iR i.a j.iF.length=true/\dy m 2 (.ptr g.size 0 0 0)/\dy m 3 (.ptr (g.size+1) 0 0 0)/\dy m 4 (.ptr (g.size+1+1) 0 0 0)/\dy m 8 (D v)/\dy m 9 eI/\dy m 10 w) (λbC=>?_) (λbC=>?_) ?_
  ·simp[p,q,r,W,S,O,dN,mn,M.hp,gy];refine⟨{j with pC:=i.a},av,aA,X,true,rfl,(h.mono (au _) dp λd _ f=>?_).same rfl rfl,λd f _=>?_,⟨(((M.put _ _).put _ _).out g).hp,(((M.put _ _).put _ _).out g).low,dp⟩,λ_=>⟨⟨rfl,C.tl,C.tn⟩,rfl⟩⟩
   all_goals (rw[fO,mn (by simpa using M.hp) dp,ao B,dF S,ao B];exact a8.get d B)
  ·have gM:¬i.op=5:=by simpa using bC
   have f:i.op=1\/i.op=2\/i.op=3\/i.op=4:=B;rcases f with e|e|e|e
   ·have P:=K i.a (by unfold iK;simp[e]);simp[p,q,r,W,S,O,e];exact⟨_,_,⟨_,rfl⟩,Nb.refl M,_,[],.inr (Gr.nil _ _),Tn.nil N,ff.2 ⟨P.1,B⟩,rfl,rfl,rfl⟩
   ·have P:=K i.a (by unfold iK;simp[e]);have F:=K i.b (by unfold iK;simp[e]);have⟨p1,bi,bk⟩:=b9.idx (te:=FD) rfl rfl (i:=i.b.toNat) (x:= D j.iF[i.b.toNat]) (by simp[show i.b.toNat<j.iF.length by omega]) rfl;have⟨A,w,hl,bH,V,R⟩:=b8 i.b F.1 F.2;have⟨p2,bl,bn⟩:=ca.idx (te:=qd) rfl rfl bH V.fg.2;simp[p,q,r,W,S,O,e,ee F.1,bi,bk,bl,bn];exact⟨_,_,⟨_,rfl⟩,Nb.refl M,_,A,V,R,ff.2 ⟨P.1,B⟩,rfl,rfl,rfl⟩
   ·have P:=K i.a (by unfold iK;simp[e]);have F:=K i.b (by unfold iK;simp[e]);have⟨p1,bi,bk⟩:=b9.idx (te:=FD) rfl rfl (i:=i.b.toNat) (x:= D j.iF[i.b.toNat]) (by simp[show i.b.toNat<j.iF.length by omega]) rfl;have⟨A,w,hl,bH,V,R⟩:=b8 i.b F.1 F.2;have⟨p2,bl,bn⟩:=ca.idx (te:=qd) rfl rfl bH V.fg.2;obtain⟨_,⟨o,rfl⟩,c1⟩:=xi.use i.n trivial;obtain⟨_,⟨gv,fY,rfl⟩,bs⟩:=Gd.use (o,j.iF[i.b.toNat]) trivial;simp only at bs;simp[p,q,r,W,S,O,e,ee F.1,bi,bk,bl,bn,c1,bs];exact⟨_,_,⟨_,rfl⟩,Nb.refl M,_,A,V,R,ff.2 ⟨P.1,B⟩,rfl,rfl,rfl⟩
   ·have P:=K i.a (by unfold iK;simp[e]);have F:=K i.b (by unfold iK;simp[e]);have c6:=K i.c (by unfold iK;simp[e]);have⟨p1,bi,bk⟩:=b9.idx (te:=FD) rfl rfl (i:=i.b.toNat) (x:= D j.iF[i.b.toNat]) (by simp[show i.b.toNat<j.iF.length by omega]) rfl;have⟨p3,eR,eS⟩:=b9.idx (te:=FD) rfl rfl (i:=i.c.toNat) (x:= D j.iF[i.c.toNat]) (by simp[show i.c.toNat<j.iF.length by omega]) rfl;have⟨A,w,hl,bH,V,R⟩:=b8 i.b F.1 F.2;have⟨l2,gw,gP,fE,eu,eH⟩:=b8 i.c c6.1 c6.2;have⟨p2,bl,bn⟩:=ca.idx (te:=qd) rfl rfl bH V.fg.2;have⟨p4,eU,eV⟩:=ca.idx (te:=qd) rfl rfl fE eu.fg.2;obtain⟨_,⟨o,rfl⟩,c1⟩:=xi.use i.n trivial;obtain⟨_,⟨gv,fY,rfl⟩,bs⟩:=DZ.use (o,j.iF[i.b.toNat],j.iF[i.c.toNat]) trivial;simp only at bs;simp[p,q,r,W,S,O,e,ee F.1,ee c6.1,bi,bk,bl,bn,eR,eS,eU,eV,c1,bs];refine iD Gb J ⟨A,l2,w,gw⟩ ⟨rfl,V,eu,by have:=R.1;have:=eH.1;simp only;omega,M⟩ ?_;rintro L I ⟨gp,Q,_⟩;simp[p,q,r];exact⟨_,_,⟨_,rfl⟩,Q,_,_,gp,R.union eH,ff.2 ⟨P.1,B⟩,rfl,rfl,rfl⟩
  ·rintro m I ⟨v,_,w,ap,⟨gd,rfl⟩,Q,gn,R,P,p,q,r,dm,dn,dk⟩;have cb:=(Q.get _ B).trans W;have ce:=(Q.get _ B).trans S;have cp:=(Q.get _ B).trans O;have hj:=Q.ok.sz;have⟨c4,u,cL,⟨ha,gB,gA⟩,hg,bN,U⟩:=ly (cx:=cx) (⟨Q.ok.hp,Q.ok.low,aw _⟩:gH 0 I) kO rfl nN kO rfl rfl J gn.jf (by simp[T.cells]) (by have:=R.1;simp;omega);have al:=ff.1 P;have an:Nb g u:=⟨⟨U.hp,U.low,B⟩,λd f=>(bN d B).trans ((Q.get d B).trans (a8.get d f))⟩;have eN:=(bN _ B).trans cb;have eO:=(bN _ B).trans ce;have eP:=(bN _ B).trans cp;have⟨s,gz,hb,gE,hd,bB,dv,aN,ea⟩:=(h.ga.mono (h':=u) λd f=>an.get d (by have:=(h.ba d f).2.1;omega)).IG (te:=FD) rfl (i:=i.a.toNat) (by simpa using al.2);have⟨E,eW,hc,gI,hf,aX,fl,bT,eb⟩:=(h.gb.mono (h':=u) λd f=>an.get d (by have:=(h.bb d f).2;omega)).IG (te:=qd) rfl (i:=i.a.toNat) (by rw[h.el.length,C.tl];exact al.2);simp at cL;have b7:=(h.ba s bB).2.2;have ef:¬s=E:=λl=>b7 (by rw[l];exact aX);have er:=H.ej aN;have fS:=H.ej bT;have et:=(h.ba s bB);have gZ:=(h.bb E aX);have gS:=et.1;have gV:=et.2.1;have⟨e,b6,gm⟩:=h.el.get (ay (show i.a.toNat<j.jS.length by rw[C.tl];exact al.2));have eE:=H6 (x:= .arr I.size c4 0 ap.length false) gm.1.na;have fL:X[i.a.toNat]'(by rw[h.el.length,C.tl];exact al.2)=e:=by rw[ay (by rw[h.el.length,C.tl];exact al.2)]at b6;simpa using b6
   rw[fL]at eb;have eF:∀x:Int,lj (D x) 0 [D v]=some (D v):=λx=>rfl;have di:∀d,d<I.size->em (I.cons (Z 1 0 [])) u d=true:=λd f=>eQ ((bN d f).trans (by rw[dO,ao B]));have ey:=di g.size B;have eA:=di (g.size+1) B;have eB:=mE aN (show g.size≠s by omega);have eC:=mE aN (show g.size+1≠s by omega);have eD:=mE aN (show E≠s by omega);have eX:(g.size+1=s)=False:=dp;have e0:(g.size+1=E)=False:=dp;have e1:(g.size+1+1=s)=False:=dp;have e2:(g.size+1+1=E)=False:=dp;have e3:(E=s)=False:=dp;have l1:g.size+1<u.size:=B;have l2:g.size+1+1<u.size:=B;have ec:aA= .arr E eW 0 X.length false:=by
    have⟨_,_,_,_,l,e⟩:=(h.gb.mono (h':=u) λd f=>an.get d (by have:=(h.bb d f).2;omega)).box aX;rw[bT]at l;simp at l;rw[e,l.1]
   have fs:i.a.toNat<X.length:=by rw[h.el.length,C.tl];exact al.2
   simp at ea;simp[p,q,r,dm,dn,dk,cb,ce,cp,cL,ee al.1,dv,ec,fs,aN,bT,eN,eO,eP,ea,eb,eF,eE,ey,eA,eB,eC,eD,mn,U.hp,er,fS,eX,e0,e1,e2,e3,l1,l2,dN,nG];clear cL di ey eA eB eC eD cb ce cp p q r dm dn dk eE eF dv fl;have e5:=h.ga.mono (h':=u) λd f=>an.get d (by have:=(h.ba d f).2.1;omega);have e7:=h.gb.mono (h':=u) λd f=>an.get d (by have:=(h.bb d f).2;omega);rw[<-ec];generalize bS:dT (dT (dT (dT u s _) E _) (g.size+1) _) (g.size+1+1) _=aE;have hh:aE.size=u.size:=by rw[<-bS];simp
   have Iq:gH 0 aE:=by rw[<-bS];exact(((U.put _ _).put _ _).put _ _).put _ _
   have G:∀d,aE.get d=if d=g.size+1+1 then _ else if d=g.size+1 then _ else if d=E then _ else if d=s then _ else u.get d:=λd=>by
    rw[<-bS,mn (by simpa using U.hp) dp,mn (by simpa using U.hp) dp,mn (by simpa using U.hp) dp,mn U.hp er]
   clear bS;have Go:∀d,d≠g.size+1+1->d≠g.size+1->d≠E->d≠s->aE.get d=u.get d:=λd gg gi gj gk=>by rw[G,ao gg,ao gi,ao gj,ao gk]
   have e4:=e5.setAt bB aN i.a.toNat (D v) (h':=aE) (by rw[G,ao B,ao B,ao B,aq rfl]);have e6:=e7.setAt aX bT i.a.toNat (.arr I.size c4 0 ap.length false) (h':=aE) (by rw[G,ao B,ao B,aq rfl]);have eL:∀d,dM av=some d->d=s:=λd f=>by rw[bB]at f;simpa using f.symm
   have eM:∀d,dM aA=some d->d=E:=λd f=>by rw[aX]at f;simpa using f.symm
   refine⟨⟨IntKind.i64.wrap (j.pC+1),j.iF.set i.a.toNat v,j.jS.set i.a.toNat ap,j.dI⟩,av,aA,X.set i.a.toNat (.arr I.size c4 0 ap.length false),gd,rfl,⟨?_,?_,?_,λd f=>?_,λd f=>?_⟩,λd f hr=>?_,⟨(Iq.out g).hp,(Iq.out g).low,dp⟩,λ_=>⟨⟨J,by simp;exact C.tl,λA hl=>?_⟩,rfl⟩⟩
   ·have:=e4.out g;simpa[gF,bO]using this
   ·exact e6.out g
   ·refine h.el.set i.a.toNat ⟨.inr ?_,λd f=>?_⟩ λe A l=>⟨l.1.mono λd f=>?_,λd f=>?_⟩
    ·have:=Gr.new ((Go I.size B B B B).trans gA);simpa using this.out g
    ·simp at f;subst f;exact⟨by show eo<=_;omega,dp,λl=>by have:=eL _ l;omega,λl=>by have:=eM _ l;omega⟩
    ·have⟨b7,ef,c9,dd⟩:=l.2 d f;rw[fO,Go d B B (λl=>dd (by rw[l];exact aX)) (λl=>c9 (by rw[l];exact bB))];exact an.get d B
    ·have⟨b7,ef,c9,dd⟩:=l.2 d f;exact⟨b7,dp,c9,dd⟩
   ·have:=h.ba d f;exact⟨this.1,dp,this.2.2⟩
   ·have:=h.bb d f;exact⟨this.1,dp⟩
   ·have hr:d<eo\/fo<=d:=hr;rw[fO,Go d B B B B];exact an.get d f
   ·rcases bZ hl with l|rfl
    ·exact C.tn A l
    ·exact R
structure Xj where
 (c:fy) (s:dX) (a b:T) (es:List T) (lo hi N:Nat)
structure Uv(N:Nat)(s:dX):Prop where
 rl:s.iF.length<=1000
 tl:s.jS.length<=1000
 tn:∀l∈s.jS,Tn N l
def Na(d:Xj)(f:List T)(e:H):Prop:=f=[d.c.t,AZ d.s d.a d.b]/\AJ d.lo d.hi e d.a d.b d.es d.s/\d.hi<=e.size/\gH 0 e/\Uv d.N d.s/\d.N<=1000000/\d.c.iY.length<=10000001
def BU(e:Xj)(h:List T)(c:H)(g:T)(d:H):Prop:=∃a f,g= .tuple [a.t,.bool f]/\Uv e.N a/\(a.dI=e.s.dI\/a.dI=0)/\d.size=c.size/\(∀b,b<c.size->d.get b=c.get b)/\gH 0 d
def GR(d:List Int):∀a∈gF d,cn a=a/\jJ a=true/\∀b,a≠ .agg b:=λa c=>by obtain⟨e,_,rfl⟩:=List.mem_map.1 c;simp
def AJ.fz{o m:Nat}{h:H}{g l:T}{p:List T}{e:dX}(c:AJ o m h g l p e)(k:Nat->Prop)(i:∀a,o<=a->a<m->k a):ir (FT h k 3) [D e.pC,g,l,D e.dI] e.cs:=
 .cons (fZ ..) (.cons ((show oQ h 1 g (gF e.iF)from .inr c.ga).ft (d:=1) (GR _) λa b=>i a (c.ba a b).1 (c.ba a b).2.1)
  (.cons (c.gb.ft (λa b=>i a (c.bb a b).1 (c.bb a b).2) (c.el.VB (f:=λn=>sl (gF n)) λq n j=>j.1.ft (d:=0) (GR _) λa b=>i a (j.2 a b).1 (j.2 a b).2.1)) (.cons (fZ ..) .nil)))
def Um{i:Xj}{args:List T}{b d:H}{e:List T}{s':dX}{ok:Bool}{V:Nat->Prop}(o:gH 0 b)(a:Nb b d)(l:∀c,V c->b.size<=c)(k:ir (FT d V 3) e s'.cs)(q:Uv i.N s')(n:s'.dI=i.s.dI\/s'.dI=0):xK b (.tuple [.agg e,.bool ok]) d (BU i args b):=by
 have⟨p,h,j⟩:=FT.tup B l k ok;refine⟨a.ok.hp,a.ok.sz,λc r m _=> .inl (a.get c m),p,h,s',ok,by rw[j];rfl,q,n,rfl,λg f=>(yM a.ok.hp a.ok.sz f).trans (a.get g f),o.cut a.ok.hp a.ok.sz⟩
def JB:dX:=⟨0,[],[],0⟩
def CF{d:Xj}{c:List T}{a b:H}(f:gH 0 a)(e:Nb a b):xK a (.tuple [.agg [D 0,dw,dw,D 0],.bool false]) b (BU d c a):=
 Um (s':=JB) (V:=λ_=>False) f e (λ_ g=>g.elim) (.cons (fZ ..) (.cons (jb ..) (.cons (jb ..) (.cons (fZ ..) .nil)))) ⟨by simp[JB],by simp[JB],by simp[JB]⟩ (.inr rfl)
structure SeS(c:fy)(s:dX)(N:Nat)(h h':H)(s':dX)(a' b':T)(es':List T)(ver:Nat):Prop where
 tx:AJ (h.size+1+1+1) h'.size h' a' b' es' s'
 nb:Nb h h'
 hz:h.size+1+1+1<=h'.size
 g2:h'.get h.size=some (Z 2 0 [c.t])
 g3:h'.get (h.size+1)=some (Z 4 ver [.agg [D s'.pC,a',b',D s'.dI]])
 g4:h'.get (h.size+1+1)=some (Z 4 0 [.agg [D 0,dw,dw,D 0]])
 to:TOk N s.iF.length s'
 ev:s'.dI=s.dI
def NH:(jr Xj Na BU).Ok prog cx 176:=by
 refine p9 (tb:=⟨pt [(224,vP)],ht [(225,jr ICp Nf Ih),(226,jr Sa M9 JM)]⟩) iB gW (iP 1182933510117985879039 [] func176) (λL a=>10000005) (λi L a eh=>by obtain⟨rfl,_⟩:=eh;simp[f176]) ?_;rintro⟨c,f,L,b,bC,cb,b6,N⟩ _ a ⟨rfl,C,ea,ok,tb,bS,F⟩ K bT;simp only at C ea tb bS F;simp[AZ]at bT;obtain⟨dn,V⟩:=bT;have b9:=λV:H=>C.ga.len (cx:=cx) V Qq _ rfl;have ca:=λV:H=>C.gb.len (cx:=cx) V FL _ rfl;rw[aG]at b9;rw[C.el.length]at ca;simp[f176,dn,V,b9,ca];generalize E:(((TI.hr a).cons _).cons _).cons _=A;have ey:gH 0 A:=by rw[<-E];exact((ok.hr.cons _).cons _).cons _
 have eR:A.size=a.size+1+1+1:=by rw[<-E];rfl
 have bn:Nb a A:=by rw[<-E];exact⟨((((Nb.refl ok.hr).cons _).cons _).cons _).ok,λc F=>(((((Nb.refl ok.hr).cons _).cons _).cons _).get c F).trans (gu a c)⟩
 have c6:A.get a.size=some (Z 2 0 [c.t]):=by rw[<-E];simp
 have bz:A.get (a.size+1)=some (Z 4 0 [.agg [D f.pC,L,b,D f.dI]]):=by rw[<-E];simp
 have aA:A.get (a.size+1+1)=some (Z 4 0 [.agg [D 0,dw,dw,D 0]]):=by rw[<-E];simp
 clear E;have dm:∀d,(dT A (a.size+1+1) d).get (a.size+1+1)=some d:=λd=>(dF aA d _).trans (aq rfl);refine dV (λX=>?_) (λX=>?_)
 ·simp[aA,dm,dN];exact CF ok (bn.put aA B _)
 simp at X;have eu:∀c,cb<=c->c<b6->A.get c=a.get c:=λc _ F=>bn.get c B;have bu:=C.mono (au _) (au _) eu;simp[bz];refine iD Gs J ⟨f,L,b,bC⟩ ⟨rfl,⟨.inr bu.ga,.inr bu.gb,bu.el.imp λ_ _ y=>y.1,λe r he bl=>?_⟩,ey,by have:=tb.rl;simp only;omega,by have:=tb.tl;simp only;omega,λl hl=>by have:=(tb.tn l hl).1;omega⟩ ?_
 ·rcases he with rfl|rfl|he
  ·have:=(C.ba r bl).2.1;omega
  ·have:=(C.bb r bl).2;omega
  ·have⟨l,y,k⟩:=C.el.left he;have:=(k r bl).2.1;omega
 rintro _ q ⟨a1,w,es1,rfl,S,G⟩;simp only at S;have eO:=G.ok.sz;have c7:=(G.get _ B).trans c6;have M:=(G.get _ B).trans bz;have c9:=(G.get _ B).trans aA;have cL:Nb a (dT q (a.size+1) (Z 4 1 [.agg [D f.pC,a1,w,D f.dI]])):=(bn.trans G).put M B _;have eC:=S.mono (lo':=a.size+1+1+1) (hi':=(dT q (a.size+1) (Z 4 1 [.agg [D f.pC,a1,w,D f.dI]])).size) (h':=dT q (a.size+1) (Z 4 1 [.agg [D f.pC,a1,w,D f.dI]])) B J λc F _=>by rw[dF M,ao B]
 have eN:gH 0 q:=⟨G.ok.hp,G.ok.low,aw _⟩;have dd:(dT q (a.size+1) (Z 4 1 [.agg [D f.pC,a1,w,D f.dI]])).get a.size=_:=(show(dT q (a.size+1) (Z 4 1 [.agg [D f.pC,a1,w,D f.dI]])).get a.size=q.get a.size by rw[dF M,ao B]).trans c7;have de:(dT q (a.size+1) (Z 4 1 [.agg [D f.pC,a1,w,D f.dI]])).get (a.size+1)=_:=(dF M _ _).trans (aq rfl);have bB:(dT q (a.size+1) (Z 4 1 [.agg [D f.pC,a1,w,D f.dI]])).get (a.size+1+1)=_:=(show(dT q (a.size+1) (Z 4 1 [.agg [D f.pC,a1,w,D f.dI]])).get (a.size+1+1)=q.get (a.size+1+1)by rw[dF M,ao B]).trans c9;simp[AZ,M,dN,S.ga.fg,S.ga.cells,S.gb.fg,S.gb.cells];generalize dT q (a.size+1) _=eI at*
 refine fc (c.iY.length+1) B (λn K h'=>∃z T U aE av,SeS c f N a h' z T U aE av/\dy K 2 (.ptr a.size 0 0 0)/\dy K 3 (.ptr (a.size+1) 0 0 0)/\dy K 4 (.ptr (a.size+1+1) 0 0 0)/\dy K 6 (D n)) ?_ ?_ B ?_
 ·rintro n K h' eL ds ⟨z,T,U,aE,av,⟨I,x,er,O,P,g,v,bk⟩,h,m,o,p⟩;have Q:∀d,(dT h' (a.size+1+1) d).get (a.size+1+1)=some d:=λd=>(dF g d _).trans (aq rfl);have c4:gH 0 h':=⟨x.ok.hp,x.ok.low,aw _⟩;simp[h,m,o,p,O,P,show(n:Int)<=c.iY.length by omega];refine dV (λX=>?_) (λX=>?_)
  ·simp[h,m,o,p,g,Q,dN];exact CF ok (x.put g B _)
  simp at X;have⟨j,W⟩:∃j:Nat,z.pC=j:=⟨z.pC.toNat,B⟩;have eb:j<c.iY.length:=B;have a7:(a.size=h'.size)=False:=dp;have a8:(a.size+1=h'.size)=False:=dp;have al:(a.size+1+1=h'.size)=False:=dp;have ec:=c4.low;simp[h,m,o,p,O,P,W,eb,a7,a8,al,ec,wv];generalize c.iY[j]=r at*
  have eM:=x.cons (Z 6 1 [r.t]);have eD:Uv N z:=⟨by have:=v.rl;have:=tb.rl;omega,by have:=v.tl;have:=tb.rl;omega,v.tn⟩;have eH:∀d,((dT h' (a.size+1+1) d).cons (Z 6 1 [r.t])).get (a.size+1+1)=some d:=λd=>by rw[dO,ao dp];exact Q d
  refine dV (λaX=>?_) (λaX=>?_)
  ·have dk:∀d:iI,∀c,a.size+1+1+1<=c->c<h'.size->((dT h' (a.size+1+1) d).cons (Z 6 1 [r.t])).get c=h'.get c:=λd c eB bs=>by rw[dO,ao dp,dF g,ao B]
   simp[h,m,o,p,P,g,a7,a8,al,W,Q,dN,I.ga.fg,I.ga.cells,I.gb.fg,I.gb.cells,show a.size+1+1<h'.size by omega];have:=Um (i:=⟨c,f,L,b,bC,cb,b6,N⟩) (args:=[c.t,AZ f L b]) (ok:=true) ok ((x.put g B (Z 4 1 [.agg [D z.pC,T,U,D z.dI]])).cons (Z 6 1 [r.t])) (λc F=>(show a.size<=c from F)) ((I.mono (au _) (au _) (dk _)).fz (λc=>a.size<=c) λc y _=>by omega) eD (.inl bk);rw[W]at this;exact this
  simp at aX;have b7:1<=r.op/\r.op<=5:=by unfold vK at aX;simpa using aX
  have ef:decide ((n:Int)=c.iY.length)=decide (n=c.iY.length):=by rw[decide_eq_decide];omega
  simp[h,m,o,p,O,a7,a8,al,ef];refine dV (λeo=>?_) (λeo=>?_)
  ·simp[h,m,o,p,g,al,dN,Q,show a.size+1+1<h'.size by omega];exact CF ok ((x.put g B _).cons _)
  simp[h,m,o,p,P,a7,a8,al,W];have eE:=I.mono (h':=h'.cons (Z 6 1 [r.t])) (au _) (au _) λc _ y=>by rw[dO,ao B]
  refine iD NG J ⟨r,z,T,U,aE,a.size+1+1+1,h'.size,N⟩ ⟨by simp[AZ,W],eE,J,c4.cons _,b7.1,b7.2,⟨rfl,by have:=v.rl;have:=v.tl;simp only;omega,v.tn⟩,by have:=tb.rl;have:=v.rl;simp only;omega,bS⟩ ?_;rintro _ s ⟨ap,a2,bi,Kb,eA,rfl,u,bH,an,bN⟩;simp only[ZL]at u bH an bN;have eP:=an.sz;have aN:∀c,c<a.size+1+1+1->s.get c=h'.get c:=λc y=>(bH c B (.inl y)).trans (by rw[dO,ao B]);have b8:=(aN a.size B).trans O;have R:=(aN (a.size+1) B).trans P;have ae:=(aN (a.size+1+1) B).trans g;have et:(a.size=s.size)=False:=dp;have ce:(a.size+1=s.size)=False:=dp;have cp:(a.size+1+1=s.size)=False:=dp;have c1:Nb a s:=⟨⟨an.hp,an.low,B⟩,λc y=>(aN c B).trans (x.get c y)⟩;have di:∀d,(dT s (a.size+1+1) d).get (a.size+1+1)=some d:=λd=>(dF ae d _).trans (aq rfl);simp[AZ,h,m,o,p,b8,R,ae,et,ce,cp,an.low,dN,u.ga.fg,u.ga.cells,u.gb.fg,u.gb.cells];cases eA with
  |false=>
   simp[h,m,o,p,ae,cp,dN,di,show a.size+1+1<s.size by omega];exact CF ok ((c1.put ae B _).cons _)
  |true=>
   have⟨t2,eF⟩:=bN rfl;simp[h,m,o,p,R,ce,dN,ds,u.ga.fg,u.ga.cells,u.gb.fg,u.gb.cells,show a.size+1<s.size by omega];have e:∀c,c<a.size+1+1+1->c≠a.size+1->((dT s (a.size+1) (Z 4 (av+1) [.agg [D ap.pC,a2,bi,D ap.dI]])).cons (Z 4 1 [.agg [D ap.pC,a2,bi,D ap.dI]])).get c=s.get c:=λc eB bs=>by rw[dO,ao dp,dF R,ao bs]
   refine⟨ap,a2,bi,Kb,av+1,u.mono (au _) J λc y bs=>?_,(c1.put R B _).cons _,dp,(e _ B B).trans b8,?_,(e _ B B).trans ae,⟨by rw[t2.rl];exact v.rl,by rw[t2.tl];exact v.rl,t2.tn⟩,by rw[eF];exact bk⟩
   ·rw[dO,ao dp,dF R,ao B]
   ·rw[dO,ao dp,dF R,aq rfl]
 ·rintro K h' ⟨z,T,U,aE,av,⟨I,x,er,O,P,g,v,bk⟩,h,m,o,p⟩;have Q:∀d,(dT h' (a.size+1+1) d).get (a.size+1+1)=some d:=λd=>(dF g d _).trans (aq rfl);have dv:((c.iY.length:Int)+1<=c.iY.length)=False:=dp;simp[h,m,o,p,O,g,Q,dN,dv];exact CF ok (x.put g B _)
 ·simp;exact⟨f,a1,w,es1,1,eC,cL,by have:=cL.ok.sz;have:=H.ej bB;omega,dd,de,bB,⟨rfl,B,tb.tn⟩,rfl⟩
def wh:List Int:=[3,3,4,4,5,6,7,8,9,10,11,12,13,14,15,16,18,19,20,21,22,23,2]
def mm(a:Int):Int:=if a<6\/28<a then 0 else wh.getD (a-6).toNat 0
def ye:ge:=⟨Int,λa=>[D a],λa=>True,λa=> D (mm a),λa c b=>by simp at b;rw[b]⟩
def NU:ye.Ok prog cx 218:=by
 refine fR [] (iP 1037 [] func218) (λl=>1) (by simp[ye]) ?_;rintro(b:Int) m n f;simp[ye]at f|-;by_cases h:b<6\/28<b
 ·have d:mm b=0:=by unfold mm;rw[aq h]
  rcases h with h|h<;>simp[f218,f,h,d]
 ·have⟨a,i⟩:∃a:Nat,b=(a:Int)+6:=⟨(b-6).toNat,B⟩;subst i;have g:a<23:=B;have⟨e,d⟩:∃e,wh[a]? =some e:=⟨_,ay (show a<wh.length from g)⟩;have c:(wh.map (T.int .i64))[a]? =some (D e):=by rw[aQ,d];rfl
  have j:mm ((a:Int)+6)=e:=by
   unfold mm;rw[ao h,show((a:Int)+6-6).toNat=a by omega];simp[List.getD,d]
  have k:binop .sub (D ((a:Int)+6)) (D 6)=some (D (a:Int)):=by rw[kP B B];congr 2;omega
  simp only[wh,aP,bY]at c;have⟨_,c⟩:=List.getElem?_eq_some_iff.1 c;simp[f218,f,show¬(a:Int)+6<6 by omega,show¬(28:Int)<(a:Int)+6 by omega,k,g,c,j]
def RR{b:fw}(ht:b.p 218=some ye)(a:Int):rl prog cx b 218 [D a]=some (D (mm a)):=gG ht NU a trivial
structure Xm(c:jG)(s:iw):Prop where
 v:OZ c
 f:lY c.ew s.fk=true
 cl:s.cells.length=c.ew.cells.length
 fu:s.dU.length=c.ew.dU.length
 th:s.dC.length=c.dC.length
 t:∀(i:Nat) (t:dX) (x:fy),s.dC[i]? =some t->c.dC[i]? =some x->0<=t.pC/\t.pC<x.iY.length/\t.iF.length=x.iF/\t.jS.length=x.iF
def Hi{a:jG}(b:OZ a):a.ew.fV.length<=2/\a.dC.length<=4:=by
 have:=b.1;unfold jE rG at this;simp only[az,aL]at this;have c:=b.2.1;omega
def Gl:mW prog cx 217 (λh:jG×iw=>[h.1.t,h.2.t]) (λh=>∀a∈h.1.dC,a.iY.length<=10000001) (λh=>GQ (Xm h.1 h.2)):=by
 refine iS [(75,v7.ji),(124,rL)] (iP 158456325028530997355645763711 [] func217) (λ_=>100) (λh b g=>by simp at g;exact aI (jG.inj g.1) (iw.inj g.2)) ?_;rintro⟨f,l⟩ x m H;replace x:∀a∈f.dC,a.iY.length<=10000001:=x;simp at H;obtain⟨F,G⟩:=H;obtain⟨_,⟨b,rfl,Q⟩,E⟩:=v7.use f x;cases b with
 |false=>simp[f217,F,G,E]
 |true=>
  have I:=Q rfl;have⟨ae,al⟩:=Hi I;simp[f217,F,G,E,um,show f.ew.fV.length<=1099511627776 by omega];refine dV (λC=>?_) (λC=>?_)
  ·simp
  simp only[bE,bP,aL]at C;obtain⟨⟨⟨T,W⟩,X⟩,Y⟩:=C;simp;generalize r:(hE.cons _).cons _=w;have S:gH 2 w:=by rw[<-r];exact⟨J,J,J⟩
  have j:w.get 0=some (Z 7 0 [f.t]):=by rw[<-r];simp
  have n:w.get 1=some (Z 7 0 [l.t]):=by rw[<-r];simp
  clear r;refine fc f.dC.length B (λe m g=>gH 2 g/\g.get 0=some (Z 7 0 [f.t])/\g.get 1=some (Z 7 0 [l.t])/\(∀(d:Nat) (c:dX) (a:fy),d<e->l.dC[d]? =some c->f.dC[d]? =some a->0<=c.pC/\c.pC<a.iY.length/\c.iF.length=a.iF/\c.jS.length=a.iF)/\dy m 2 (.ptr 0 0 0 0)/\dy m 3 (.ptr 1 0 0 0)/\dy m 5 (D e)) ?_ ?_ B ?_
  ·rintro e m g z P ⟨i,j,n,A,o,p,q⟩;have L:=i.ne (b:=0) B;have M:=i.ne (b:=1) B;have y:e<l.dC.length:=B;have⟨c,ht⟩:∃c,l.dC[e]? =some c:=⟨_,ay y⟩;have⟨a,k⟩:∃a,f.dC[e]? =some a:=⟨_,ay z⟩;have N:l.dC[e]=c:=by rw[ay y]at ht;simpa using ht
   have O:f.dC[e]=a:=by rw[ay z]at k;simpa using k
   simp[j,n,o,p,q,z,y,L,M,i.low,N,O];refine dV (λv=>?_) (λv=>?_)
   ·simp[o,p,q,i.hp]
   simp only[bE,bP,aL,aZ]at v;simp[o,p,q,P];refine⟨i.cons _,by simpa[L]using j,by simpa[M]using n,λd U V R s u=>?_⟩;rcases aM d e with K|K
   ·exact A d U V K s u
   ·have:d=e:=B;subst this;rw[ht]at s;rw[k]at u;simp only[ar]at s u;subst s u;exact⟨B,B,v.1.2,v.2⟩
  ·rintro m g ⟨i,j,n,A,o,p,q⟩;simp[j,o,p,q,i.hp];exact⟨I,T,B,B,B,λd c a ht k=>A d c a (List.getElem?_eq_some_iff.1 k).1 ht k⟩
  ·exact⟨S,j,n,λd c a R=>by omega,J⟩
def Gk:mW prog cx 254 (λa:Int×Int=>[D a.1,D a.2]) (λa=>True) (λ_=>D7):=by
 refine iS [] (iP 4275 [] func254) (λ_=>10) (λa i b=>by simp at b;exact aI b.1 b.2) ?_;rintro⟨k,g⟩ _ j e;simp at e;obtain⟨d,c⟩:=e;by_cases f:g<1
 ·simp[f254,d,c,f]
 ·simp[f254,d,c,f,Dc (show¬g=0 by omega)];refine dV (λh=>?_) (λh=>?_)<;>simp[c,nG]
def Xh(a:fD)(b:dX):Prop:=(a.op=7\/a.op=9)->iR a.c b.iF.length=true
def B0:mW prog cx 219 (λb:fD×dX=>[b.1.t,b.2.t]) (λb=>Xh b.1 b.2) (λ_=>D7):=by
 refine iS [(254,Gk.ji)] (iP 1099578740959 [(6,[(1,10)]),(8,[(1,10)])] func219) (λ_=>10) (λb w k=>by simp at k;exact aI (fD.inj k.1) (dX.inj k.2)) ?_;rintro⟨a,v⟩ e x o;replace e:Xh a v:=e;simp at o;obtain⟨g,h⟩:=o;have⟨s,f⟩:=Gk.fnI (γ:=Int×Int) id (λ_=>trivial);have f:∀{r:fw},r.p 254=some (wR prog cx 254 (λb:Int×Int=>[D b.1,D b.2]) (λb=>True) (λ_=>D7))->∀j i,rl prog cx r 254 [D j,D i]=some (D (s (j,i))):=λht j i=>f ht (j,i);cases c:decide (a.op=7)with
 |true=>
  have⟨u,hr,_⟩:=im (e (.inl (by simpa using c)));have n:=ee (ff.1 (e (.inl (by simpa using c)))).1;have m:decide (a.op=6)=false:=by
   have:a.op=7:=by simpa using c
   exact aK B
  have l:decide (a.op=27)=false:=by
   have:a.op=7:=by simpa using c
   exact aK B
  simp[f219,g,h,c,m,l,hr,n,f,nG]
 |false=>
  cases d:decide (a.op=9)with
  |true=>
   have⟨u,hr,_⟩:=im (e (.inr (by simpa using d)));have n:=ee (ff.1 (e (.inr (by simpa using d)))).1;have m:decide (a.op=6)=false:=by
    have:a.op=9:=by simpa using d
    exact aK B
   have l:decide (a.op=27)=false:=by
    have:a.op=9:=by simpa using d
    exact aK B
   simp[f219,g,h,c,d,m,l,hr,n,f,nG]
  |false=>
   simp[f219,g,h,c,d]
   repeat' (refine dV (λq=>?_) (λq=>?_)<;>simp[q,g,h,c,d])
def KA{a:H}(h:gH 0 a)(b:List Int)(hl:b.length<=1000000):∃f c,iN cx a 25 25 dw (sl (gF b))=some (.val f c)/\Gr c f 1 (gF b)/\Nb a c/\(∀d,dM f=some d->a.size<=d)/\(c=a\/c=a.cons ⟨1,0,0,false,false,gF b⟩):=by
 unfold iN pS m7;simp only[kO,dS,show qd.u= .slice 3 from rfl,nN,OD];cases b with
 |nil=>exact⟨_,_,rfl,Gr.nil _ _,Nb.refl h,λd e=>by simp at e,.inl rfl⟩
 |cons g b=>
  refine⟨.arr a.size 0 0 (gF (g::b)).length false,a.cons ⟨1,0,0,false,false,gF (g::b)⟩,?_,Gr.new (ep:=0) (ver:=0) (ex:=false) J,(Nb.refl h).cons _,λd e=>by simp at e;omega,.inr rfl⟩;rw[m8 (by simp[T.cells]),il];show jl (a.ja 1 8 [] (gF (g::b)))=_;rw[oo (by simp[T.cells]) dt (by simp at hl|-;omega)];rfl
structure PeP(c:jG)(s:iw)(th:Int)(e:dY)(t:dX)(x:fy)(i:fD):Prop where
 f:Xm c s
 n:iR th c.dC.length=true
 ht:s.dC[th.toNat]? =some t
 hx:c.dC[th.toNat]? =some x
 hi:x.iY[t.pC.toNat]? =some i
 k:e.kind=1\/e.kind=17\/(e.kind=mm i.op/\e.kind≠0)
def ZA(a:Nat)(c:iw):Prop:=∀d∈c.dC,∀b∈d.jS,b.length<=a
def evN(a:Nat)(b:dY):Prop:=b.mo.length<=a/\b.uA.length<=a
def Vd(c:jG)(f:iw)(h:Int)(e:T):Prop:=∃(a:dY) (b:Bool),e= .tuple [a.t,.bool b]/\evN 1000000 a/\(b=true->∃g i d,PeP c f h a g i d)
def GS{f:jG}{m:iw}(g:Xm f m){d:Int}(h:iR d f.dC.length=true):∃b a c,jM d=some d.toNat/\m.dC[d.toNat]? =some b/\f.dC[d.toNat]? =some a/\jM b.pC=some b.pC.toNat/\a.iY[b.pC.toNat]? =some c/\b.iF.length=a.iF/\b.jS.length=a.iF/\(∀e∈iK c,0<=e/\e<a.iF)/\a.iF<=32:=by
 have⟨a,i,_⟩:=im h;have j:=h;rw[<-g.th]at j;have⟨b,ht,_⟩:=im j;have⟨p1,p2,p3,p4⟩:=g.t _ _ _ ht i;have⟨c,k⟩:∃c,a.iY[b.pC.toNat]? =some c:=⟨_,ay B⟩;have l:=g.v.2.2 a (ax i);exact⟨b,a,c,ee (ff.1 h).1,ht,i,ee p1,k,p3,p4,λe hr=>l.2.2 c (ax k) e hr,l.2.1⟩
structure PJ(th:Int)(t:dX)(i:fD)(o:Int)(h':H)(dv:T)(d:List Int)(ver:Nat):Prop where
 ok:gH 6 h'
 b2:h'.get 2=some (Z 7 0 [.agg [D 0,D 0,D 0,D 0,D 0,dw,dw]])
 b3:h'.get 3=some (Z 4 1 [t.t])
 b4:h'.get 4=some (Z 6 1 [i.t])
 b5:h'.get 5=some (Z 7 ver [.agg [D th,D (mm i.op),D o,D 0,D i.iQ,dv,dw]])
 g:Gr h' dv 1 (gF d)
 l:d.length<=1000000
 bx:∀c,dM dv=some c->6<=c
def PJ.app{p:Int}{t:dX}{j:fD}{o:Int}{h:H}{q:Nat}(e:PJ p t j o h dw [] q)(k:List Int)(hl:k.length<=1000000):∃c b,iN cx h 25 25 dw (sl (gF k))=some (.val c b)/\c.fg=true/\c.cells=[c]/\(∀a,a<6->b.get a=h.get a)/\gH 6 b/\
 ∀d,d=((Z 7 (q+1) [.agg [D p,D (mm j.op),D o,D 0,D j.iQ,c,dw]]):iI)->PJ p t j o (dT b 5 d) c k (q+1):=by
 have w:=e.ok.sz;have⟨c,b,u,m,l,r,_⟩:=KA ⟨e.ok.hp,e.ok.low,aw _⟩ k hl;have f:∀a,a<6->b.get a=h.get a:=λa i=>l.get a B;have s:gH 6 b:=⟨l.ok.hp,l.ok.low,aO w l.ok.sz⟩;have v:=(f 5 B).trans e.b5;have g:∀d a,(dT b 5 d).get a=if a=5 then some d else b.get a:=λd a=>dF v d a;refine⟨c,b,u,m.fg,m.cells,f,s,?_⟩;rintro d rfl;exact⟨s.put _ _,by rw[g,ao B];exact(f 2 B).trans e.b2,by rw[g,ao B];exact(f 3 B).trans e.b3,by rw[g,ao B];exact(f 4 B).trans e.b4,by rw[g,aq rfl],m.mono λa i=>by rw[g,ao (by have:=r a i;omega)],hl,λa i=>by have:=r a i;omega⟩
def zG:mW prog cx 160 (λo:jG×iw×Int=>[o.1.t,o.2.1.t,D o.2.2]) (λo=>(∀x∈o.1.dC,x.iY.length<=10000001)/\ZA 1000000 o.2.1) (λo=>Vd o.1 o.2.1 o.2.2):=by
 refine iS [(217,Gl.ji),(218,ye),(219,B0.ji)] (iP 10633824283312870803151638865622599647 [(11,[(2,8),(4,8),(6,8)]),(14,[(2,3),(2,4)])] func160) (λ_=>100) (λo dd h=>by simp at h;exact aI (jG.inj h.1) (aI (iw.inj h.2.1) h.2.2)) ?_;rintro⟨d,s,q⟩ ⟨b8,cb⟩ P b6;simp only at b8 cb;simp at b6;obtain⟨R,I,E⟩:=b6;obtain⟨_,⟨dd,rfl,b7⟩,bS⟩:=Gl.use (d,s) b8;simp only at b7 bS;have bz:Vd d s q (.tuple [dY.t ⟨0,0,0,0,0,[],[]⟩,.bool false]):=⟨_,_,rfl,⟨J,J⟩,J⟩;simp[f160,R,I,E,bS];refine dV (λbB=>?_) (λbB=>?_)
 ·simp;exact bz
 simp only[bE,bP,aZ]at bB;obtain⟨⟨rfl,c6⟩,eu⟩:=bB;have an:=b7 rfl;have bC:iR q d.dC.length=true:=ff.2 ⟨B,B⟩;have⟨z,x,e,ce,bH,cp,ea,cL,eh,eo,c1,er⟩:=GS an bC;have ds:iR q s.fk.dC.length=true:=by
  rw[(nL an.f).2.2,<-an.v.2.1];exact bC
 have⟨u,c9,_⟩:=im ds;simp[R,I,E,ce,bH,cp,ea,cL,c9];have av:∀A:dY,evN 1000000 A->(A.kind=1\/A.kind=17\/(A.kind=mm e.op/\A.kind≠0))->Vd d s q (.tuple [A.t,.bool true]):=λA I E=>⟨A,true,rfl,I,λ_=>⟨z,x,e,an,bC,bH,cp,cL,E⟩⟩;refine dV (λc6=>?_) (λc6=>?_)
 ·simp[E];exact av ⟨q,1,-1,0,-1,[],[]⟩ ⟨J,J⟩ (.inl rfl)
 cases a7:decide (u.iv=4)with
 |true=>
  simp[R,I,E,a7,ce,c9];exact av ⟨q,17,u.cond,0,e.iQ,[],[]⟩ ⟨J,J⟩ (.inr (.inl rfl))
 |false=>
 cases bN:decide (u.iv=2)with
 |false=>
  simp[R,I,E,a7,bN];exact bz
 |true=>
  have ca:∀r∈iK e,iR r z.jS.length=true:=λr hr=>by have:=c1 r hr;exact ff.2 ⟨B,B⟩
  have dm:Xh e z:=λk=>by
   have hr:e.c∈iK e:=by unfold iK;rcases k with k|k<;>simp[k]
   have:=c1 _ hr;exact ff.2 ⟨B,B⟩
  obtain⟨_,⟨T,rfl⟩,bT⟩:=B0.use (e,z) dm;simp only at bT;simp[R,I,E,a7,bN,RR,bT];refine dV (λM=>?_) (λM=>?_)
  ·simp;exact bz
  have b9:mm e.op≠0:=by simpa using M
  simp;generalize O:H.cons _ _=K;have aA:gH 6 K:=by rw[<-O];exact⟨J,J,J⟩
  have de:K.get 2=some (Z 7 0 [.agg [D 0,D 0,D 0,D 0,D 0,dw,dw]]):=by rw[<-O];simp
  have W:K.get 3=some (Z 4 1 [z.t]):=by rw[<-O];simp
  have X:K.get 4=some (Z 6 1 [e.t]):=by rw[<-O];simp
  have y:∃aX,K.get 5=some (Z 7 aX [.agg [D q,D (mm e.op),D T,D 0,D e.iQ,dw,dw]]):=⟨3,by rw[<-O];simp⟩;clear O;obtain⟨ec,y⟩:=y;have aE:∀{r:Int},r∈iK e->∃m,jM r=some r.toNat/\z.jS[r.toNat]? =some m/\m.length<=1000000:=λ{r} hr=>by
   have⟨m,hl,_⟩:=im (ca r hr);exact⟨m,ee (ff.1 (ca r hr)).1,hl,cb z (ax bH) m (ax hl)⟩
  have et:gH 0 K:=⟨aA.hp,aA.low,aw _⟩;have eA:=aA.sz;have ap:PJ q z e T K dw [] ec:=⟨aA,de,W,X,y,Gr.nil _ _,J,λd M=>by simp at M⟩;refine lf (λP h'=>∃al N aX,PJ q z e T h' al N aX/\dy P 6 (.ptr 2 0 0 0)/\dy P 8 (.ptr 3 0 0 0)/\dy P 9 (.ptr 4 0 0 0)/\dy P 10 (.ptr 5 0 0 0)) (λc7=>?_) (λc7=>?_) ?_
  ·have S:e.op=10:=by simpa using c7
   have⟨m,l1,l2,l3⟩:=aE (r:=e.a) (by unfold iK;simp[S]);have⟨aN,p,G,V,U,C,c4,fin⟩:=ap.app m l3;have sv:=λd (n:d<6)=>eQ (C d n);have F:=(C 5 B).trans y;simp[W,X,y,l1,l2,G,V,U,sv,F,dN];exact⟨_,_,_,fin _ rfl⟩
  ·cases ae:decide (e.op=7)with
   |true=>
    have⟨m,l1,l2,l3⟩:=aE (r:=e.c) (by unfold iK;simp[show e.op=7 by simpa using ae]);have⟨aN,p,G,V,U,C,c4,fin⟩:=ap.app m l3;have sv:=λd (n:d<6)=>eQ (C d n);have F:=(C 5 B).trans y;simp[ae,W,X,y,l1,l2,G,V,U,sv,F,dN];exact⟨_,_,_,fin _ rfl⟩
   |false=>
   cases a8:decide (e.op=9)with
   |true=>
    have⟨m,l1,l2,l3⟩:=aE (r:=e.c) (by unfold iK;simp[show e.op=9 by simpa using a8]);have⟨aN,p,G,V,U,C,c4,fin⟩:=ap.app m l3;have sv:=λd (n:d<6)=>eQ (C d n);have F:=(C 5 B).trans y;simp[ae,a8,W,X,y,l1,l2,G,V,U,sv,F,dN];exact⟨_,_,_,fin _ rfl⟩
   |false=>
    simp[ae,a8];exact⟨_,_,_,ap⟩
  rintro P h' ⟨al,N,aX,i,bn,bs,bu,S⟩;have ey:=i.ok.sz;have eb:gH 0 h':=⟨i.ok.hp,i.ok.low,aw _⟩;simp[bn,bs,bu,S,i.b4];refine dV (λM=>?_) (λM=>?_)
  ·have dn:e.op=8\/e.op=9\/e.op=26:=by
    simp only[bM,aL]at M;omega
   have⟨m,l1,l2,l3⟩:=aE (r:=e.b) (by unfold iK;rcases dn with k|k|k<;>simp[k]);have⟨aN,p,G,bk,L,di,_⟩:=KA eb m l3;have sv:=λd (n:d<6)=>eQ (L.get d B);have ef:=(L.get 2 B).trans i.b2;have F:=(L.get 5 B).trans i.b5;have Q:∀j d,(dT p 5 j).get d=if d=5 then some j else p.get d:=λj d=>dF F j d;have bl:∀j w d,(dT (dT p 5 j) 2 w).get d=if d=2 then some w else if d=5 then some j else p.get d:=λj w d=>by
    rw[mn (by simp;exact L.ok.hp) (by have:=L.ok.sz;simp;omega),Q]
   have bi:∀j w,TI.fz (dT (dT p 5 j) 2 w) al=some (sl (gF N)):=λj w=>(i.g.mono (h':=dT (dT p 5 j) 2 w) λd n=>by
    have⟨_,_,_,_,dv,_⟩:=i.g.box n;have:=i.bx d n;rw[bl,ao B,ao B];exact L.get d (H.ej dv)).fz J
   have dk:∀j w,TI.fz (dT (dT p 5 j) 2 w) aN=some (sl (gF m)):=λj w=>(bk.mono (h':=dT (dT p 5 j) 2 w) λd n=>by
    have:=di d n;rw[bl,ao B,ao B]).fz J
   simp[bn,bs,bu,S,i.b2,i.b3,i.b4,i.b5,l1,l2,G,bk.fg,bk.cells,i.g.fg,i.g.cells,sv,ef,F,Q,bl,bi,dk,dN,L.ok.hp];exact av ⟨q,mm e.op,T,0,e.iQ,N,m⟩ ⟨i.l,l3⟩ (.inr (.inr ⟨rfl,b9⟩))
  ·have Q:∀j d,(dT h' 2 j).get d=if d=2 then some j else h'.get d:=λj d=>dF i.b2 j d;have bi:∀j,TI.fz (dT h' 2 j) al=some (sl (gF N)):=λj=>(i.g.mono (h':=dT h' 2 j) λd n=>by
    have:=i.bx d n;rw[Q,ao B]).fz J
   simp[bn,bs,bu,S,i.b2,i.b3,i.b4,i.b5,i.g.fg,i.g.cells,Q,bi,dN,i.ok.hp];exact av ⟨q,mm e.op,T,0,e.iQ,N,[]⟩ ⟨i.l,J⟩ (.inr (.inr ⟨rfl,b9⟩))
structure Sh(n0:Nat)(h':H)(ct:T)(es:List T)(ts:List dX)(lo hi:Nat->Nat):Prop where
 g:Gr h' ct 4 es
 l:es.length=ts.length
 e:∀(i:Nat) (e:T) (t:dX),es[i]? =some e->ts[i]? =some t->∃a b el,e=AZ t a b/\AJ (lo i) (hi i) h' a b el t
 m:∀i,i<ts.length->n0<=lo i/\hi i<=h'.size
 d:∀i j,i<j->j<ts.length->hi i<=lo j
 c:∀c,dM ct=some c->n0<=c/\∀i,i<ts.length->¬(lo i<=c/\c<hi i)
def Sh.mono{j:Nat}{f h':H}{k:T}{n:List T}{s:List dX}{q h:Nat->Nat}(b:Sh j f k n s q h)(E:f.size<=h'.size)(p:∀a,j<=a->a<f.size->h'.get a=f.get a):Sh j h' k n s q h:=
 ⟨b.g.mono λa r=>p a (b.c a r).1 (by have⟨_,_,_,_,z,_⟩:=b.g.box r;exact H.ej z),b.l,λi v C A o=>by
   have⟨t,u,y,w,x⟩:=b.e i v C A o;have F:=b.m i (by have:=(List.getElem?_eq_some_iff.1 o).1;exact this);exact⟨t,u,y,w,x.mono (au _) (au _) λa G I=>p a B B⟩,λi h=>by have:=b.m i h;omega,b.d,b.c⟩
def Sh.app{y:Nat}{o r F:H}{v C:T}{w:List T}{i:List dX}{I h:Nat->Nat}(f:Sh y o v w i I h)(Y:y<=o.size)(K:Nb o r){s t:T}{E:List T}{u:dX}(W:AJ o.size r.size r s t E u)(x:Xt r v 4 (w++[AZ u s t]) C F):
 Sh y F C (w++[AZ u s t]) (i++[u]) (λa=>if a=i.length then o.size else I a) (λa=>if a=i.length then r.size else h a):=by
 have al:=K.ok.sz;have an:=x.2.2.2.sz;have A:∀b,dM v=some b->b<o.size:=λb q=>by have⟨_,_,_,_,S,_⟩:=f.g.box q;exact H.ej S
 refine⟨x.1,by simp[f.l],λa O X p k=>?_,λa h=>?_,λa G U V=>?_,λb q=>?_⟩
 ·by_cases q:a=i.length
  ·subst q;rw[cC (au _),Nat.sub_self]at k;rw[cC (by rw[f.l];exact au _),f.l,Nat.sub_self]at p;simp at p k;subst p;subst k;refine⟨s,t,E,rfl,?_⟩;simp only[bj];exact W.mono (au _) (au _) λb L z=>x.2.1 b z λq=>by have:=A b q;omega
  ·have h:a<i.length:=by have:=(List.getElem?_eq_some_iff.1 k).1;simp at this;omega
   rw[cr h]at k;rw[cr (by rw[f.l];exact h)]at p;have⟨M,N,R,P,Q⟩:=f.e a O X p k;have ae:=f.m a h;rw[ao q,ao q];exact⟨M,N,R,P,Q.mono (au _) (au _) λb L z=>(x.2.1 b B λq=>((f.c b q).2 a h ⟨L,z⟩)).trans (K.get b B)⟩
 ·simp at h;by_cases q:a=i.length
  ·rw[aq q,aq q];omega
  ·rw[ao q,ao q];have:=f.m a B;omega
 ·simp at V;by_cases q:G=i.length
  ·rw[ao B,aq q];have:=f.m a B;omega
  ·rw[ao B,ao q];exact f.d a G U B
 ·rcases x.2.2.1 b q with q|q
  ·refine⟨(f.c b q).1,λa h=>?_⟩;simp at h;by_cases j:a=i.length
   ·rw[aq j,aq j];have:=A b q;omega
   ·rw[ao j,ao j];exact(f.c b q).2 a B
  ·refine⟨B,λa h=>?_⟩;simp at h;by_cases j:a=i.length
   ·rw[aq j,aq j];omega
   ·rw[ao j,ao j];have:=f.m a B;omega
def Hz{b f:Type}{c:f->b->Prop}{d:b->f}(e:∀x,c (d x) x):∀a:List b,ir c (a.map d) a
 | []=> .nil
 |x::a=> .cons (e x) (Hz e a)
def U8(a:iw)(d:List T)(c:H):Prop:=d=[a.t]/\gH 0 c/\DJ a.fk [a.fk.t] c/\a.cells.length<=1000000/\a.dU.length<=1000000/\a.dC.length<=1000000/\∀b∈a.dC,b.iF.length<=1000000/\b.jS.length<=1000000/\∀e∈b.jS,e.length<=1000000
structure Cp9(s:iw)(h h':H)(c0 c2 c3 cc cf ct:T)(es:List T)(lo hi:Nat->Nat)(n0:Nat):Prop where
 nb:Nb h h'
 z:h.size<=n0
 zn:n0<=h'.size
 k0:c0.fg=true/\c0.cells=[c0]/\c2.fg=true/\c2.cells=[c2]/\c3.fg=true/\c3.cells=[c3]
 gc:Gr h' cc 1 (gF s.cells)
 gf:Gr h' cf 1 (gF s.dU)
 bc:∀c,dM cc=some c->h.size<=c/\c<n0
 bf:∀c,dM cf=some c->h.size<=c/\c<n0/\dM cc≠some c
 th:Sh n0 h' ct es s.dC lo hi
def Ns(g:iw)(o:List T)(i:H)(n:T)(j:H):Prop:=∃a b c d e f h l k m,n= .agg [a,D g.fk.tx,b,c,d,e,f]/\Cp9 g i j a b c d e f h l k m
structure Cq(s:iw)(h:H)(c0 c2 c3 cc cf:T)(q:Nat)(h':H)(k:Nat)(ct:T)(es:List T)(lo hi:Nat->Nat)(ver:Nat):Prop where
 nb:Nb h h'
 b1:h'.get h.size=some (Z 7 0 [s.t])
 b2:h'.get (h.size+1)=some (Z 7 0 [.agg [dw,D 0,dw,dw,dw,dw,dw]])
 b3:h'.get q=some (Z 7 ver [.agg [c0,D s.fk.tx,c2,c3,cc,cf,ct]])
 gc:Gr h' cc 1 (gF s.cells)
 gf:Gr h' cf 1 (gF s.dU)
 th:Sh (q+1) h' ct es (s.dC.take k) lo hi
def N7:(jr iw U8 Ns).Ok prog cx 175:=by
 refine jn (tb:=⟨pt [],ht [(166,jr fa DJ Ii),(225,jr ICp Nf Ih)]⟩) iB gW (iP 2097183 [(1,[(2,3),(2,5),(2,7),(6,7),(2,9),(6,9),(2,12),(6,12),(10,12)]),(5,[(1,7)])] func175) (λ_ _=>1000005) (λw r f e2=>by obtain⟨rfl,_⟩:=e2;simp[f175]) ?_;rintro h _ f ⟨rfl,fi,⟨_,_,p1,p2,p3,p4⟩,gm,gn,gv,e5⟩ O ef;simp at ef;have dk:=fi.hr;simp[f175,ef];generalize K:H.cons _ _=I;have fo:gH 0 I:=by rw[<-K];exact(dk.cons _).cons _
 have gS:I.size=f.size+1+1:=by rw[<-K];rfl
 have fe:Nb f I:=by rw[<-K];exact⟨(((Nb.refl dk).cons _).cons _).ok,λa k=>((((Nb.refl dk).cons _).cons _).get a k).trans (gu f a)⟩
 have ds:I.get f.size=some (Z 7 0 [h.t]):=by rw[<-K];simp
 have dv:I.get (f.size+1)=some (Z 7 0 [.agg [dw,D 0,dw,dw,dw,dw,dw]]):=by rw[<-K];simp
 clear K;refine lO Gq J h.fk ⟨rfl,fo,p1,p2,p3,p4⟩ ?_;rintro _ b ⟨s,u,v,gj,rfl,N,G⟩;have gI:=G.ok.sz;have eo:gH 0 b:=⟨G.ok.hp,G.ok.low,aw _⟩;have a1:=(G.get f.size B).trans ds;have a2:=(G.get (f.size+1) B).trans dv;have⟨aX,aA,b7,⟨gy,gB,cL⟩,eH,an,okB⟩:=ly (cx:=cx) (sz:=1) eo (x:=sl (h.cells.map (T.int .i64))) (xs:=h.cells.map (T.int .i64)) oh rfl yJ oh rfl rfl J J (by simp[T.cells]) dp;have⟨a7,P,aN,⟨gz,gE,a8⟩,gd,L,di⟩:=ly (cx:=cx) (sz:=1) okB (x:=sl (h.dU.map (T.int .i64))) (xs:=h.dU.map (T.int .i64)) oh rfl yJ oh rfl rfl J J (by simp[T.cells]) dp;have eb:∀a,a<b.size->em (b.cons (Z 1 0 [])) aA a=true:=λa k=>eQ ((an a k).trans (by rw[dO,ao B]));have ec:∀a,a<aA.size->em (aA.cons (Z 1 0 [])) P a=true:=λa k=>eQ ((L a k).trans (by rw[dO,ao B]));have eA:=eQ (G.get f.size B);have eC:=eb f.size B;have eE:=ec f.size B;have eD:∀a,b.size+1<=a->em (b.cons (Z 1 0 [])) aA a=true:=λa k=>iV (kZ _ dp);have eF:∀a,b.size+2<=a->em (aA.cons (Z 1 0 [])) P a=true:=λa k=>iV (kZ _ dp);have dn:∀a,b.size<=a->em I b a=true:=λa k=>iV (kZ _ B);have bT:=(an f.size B).trans a1;have b6:=(L f.size B).trans bT;have ea:=(L (f.size+1) B).trans ((an (f.size+1) B).trans a2);have e7:=eo.low;have e8:=okB.low;have e9:=di.low;simp only[aG]at b7 aN cL a8;rw[eH]at aN a8;have fE:(f.size=b.size)=False:=dp;have fL:(f.size+1=b.size)=False:=dp;have fS:(f.size=b.size+1)=False:=dp;have fY:(f.size+1=b.size+1)=False:=dp;have eB:=dn (b.size+1+1) B;have e0:s.fg=true/\s.cells=[s]/\u.fg=true/\u.cells=[u]/\v.fg=true/\v.cells=[v]:=⟨N.g0.fg,N.g0.cells,N.g2.fg,N.g2.cells,N.g3.fg,N.g3.cells⟩;obtain⟨b8,b9,ca,cb,ce,cp⟩:=e0;simp[MG,a1,b7,aN,eH,gd,bT,b6,eA,eC,eE,dn,eD,eF,e7,e8,e9,b8,b9,ca,cb,ce,cp,fE,fL,fS,fY,eB];have gw:f.size+1<b.size+1+1:=B;have gg:P.size=b.size+1+1:=B;generalize ae:P.cons ⟨7,0,0,true,false,_⟩=X;have fC:X.size=b.size+1+1+1:=by rw[<-ae];simp[size_cons,gg]
 have fm:gH 0 X:=by rw[<-ae];exact gH.cons ⟨di.hp,di.low,aw _⟩ _
 have c1:X.get (b.size+1+1)=some (Z 7 0 [.agg [dw,D 0,dw,dw,dw,dw,dw]]):=by
  rw[<-ae,dO,aq B]
 have eh:∀a,a<b.size+1+1->X.get a=P.get a:=λa k=>by rw[<-ae,dO,ao B]
 generalize al:dT X _ _=F;have gQ:F.size=b.size+1+1+1:=by rw[<-al,fI,fC]
 have et:gH 0 F:=by rw[<-al];exact fm.put _ _
 have eO:=(show F.get (b.size+1+1)=some (Z 7 1 [.agg [s,D h.fk.tx,u,v,.arr b.size aX 0 h.cells.length false,.arr (b.size+1) a7 0 h.dU.length false,dw]])by rw[<-al];exact(dF c1 _ _).trans (aq rfl));have M:∀a,a<b.size+1+1->F.get a=P.get a:=λa k=>by rw[<-al,dF c1,ao B];exact eh a k
 clear al ae;have c4:Gr F (.arr b.size aX 0 h.cells.length false) 1 (gF h.cells):=by
  have:=Gr.new (((M b.size B).trans (L b.size B)).trans cL);simpa using this
 have c6:Gr F (.arr (b.size+1) a7 0 h.dU.length false) 1 (gF h.dU):=by
  have:=Gr.new ((M (b.size+1) B).trans a8);simpa using this
 have fb:Nb f F:=⟨⟨et.hp,et.low,B⟩,λa k=>(M a B).trans ((L a B).trans ((an a B).trans ((G.get a B).trans (fe.get a k))))⟩;have eI:=(M f.size B).trans b6;have eL:=(M (f.size+1) B).trans ea;have aE:∀a,dM (.arr b.size aX 0 h.cells.length false)=some a->a=b.size:=λa i=>by simpa using i.symm
 have Q:∀a,dM (.arr (b.size+1) a7 0 h.dU.length false)=some a->a=b.size+1:=λa i=>by simpa using i.symm
 generalize T.arr b.size aX 0 h.cells.length false=C at*
 generalize T.arr (b.size+1) a7 0 h.dU.length false=E at*
 have bC:∀a,dM C=some a->f.size<=a/\a<b.size+1+1+1:=λa i=>by have:=aE a i;omega
 have bH:∀a,dM E=some a->f.size<=a/\a<b.size+1+1+1/\dM C≠some a:=λa i=>⟨by have:=Q a i;omega,by have:=Q a i;omega,λdm=>by have:=aE a dm;have:=Q a i;omega⟩;have eu:∀a,dM C=some a->a≠b.size+1+1/\a≠f.size+1:=λa i=>by have:=aE a i;omega
 have ey:∀a,dM E=some a->a≠b.size+1+1/\a≠f.size+1:=λa i=>by have:=Q a i;omega
 clear aE Q b7 aN cL a8 eA eC eE dn eD eF eB an L eb ec bT b6 ea a1 a2 ds dv M eh c1;generalize b.size+1+1=i at*
 have eP:=c4.fg;have eR:=c4.cells;have eU:=c6.fg;have eV:=c6.cells;refine yU h.dC.length (λo O h'=>∃p S bB bu av,Cq h f s u v C E i h' o p S bB bu av/\dy O 1 (.ptr f.size 0 0 0)/\dy O 2 (.ptr (f.size+1) 0 0 0)/\dy O 3 (.ptr i 0 0 0)/\dy O 4 (D o)) ?_ B (aw _) ?_
 ·rintro o O h' gp ⟨p,S,bB,bu,av,d,U,V,W,bl⟩;simp[U,V,W,bl,d.b1,d.b2,d.b3];refine dV (λc7=>?_) (λc7=>?_)
  ·have c9:o<h.dC.length:=by simpa using c7
   have⟨m,bz⟩:∃m,h.dC[o]? =some m:=⟨_,ay c9⟩;have e1:h.dC[o]=m:=by rw[ay c9]at bz;simpa using bz
   have de:=e5 m (ax bz);simp[U,V,W,bl,d.b1,d.b2,d.b3,c9,e1];have fl:gH 0 h':=⟨d.nb.ok.hp,d.nb.ok.low,aw _⟩;refine lO Gs J ⟨m,sl (gF m.iF),sl (m.jS.map ZB),m.jS.map ZB⟩ ⟨by rfl,⟨.inl rfl,.inl rfl,?_,?_⟩,fl,de.1,de.2.1,de.2.2⟩ ?_
   ·exact Hz (λe6=> .inl rfl) _
   ·rintro e a (rfl|rfl|he) x
    ·simp at x
    ·simp at x
    ·obtain⟨e6,_,rfl⟩:=List.mem_map.1 he;simp[ZB]at x
   rintro _ bk ⟨r,A,gi,rfl,ap,q⟩;have dm:i+1<=h'.size:=by have:=H.ej d.b3;omega
   have p3:=(q.get i B).trans d.b3;have eS:Gr bk p 4 S:=d.th.g.mono λa x=>q.get a (by have⟨_,_,_,_,eN,_⟩:=d.th.g.box x;exact H.ej eN);have⟨bN,bs,eM,z⟩:=eS.Fv (cx:=cx) ⟨q.ok.hp,q.ok.low,aw _⟩ OS rfl Kf rfl J (x:=AZ m r A) rfl (by have:=d.th.l;simp at this;simp;omega);have fA:=eQ (q.get i B);have fv:∀a,a<bk.size->dM p≠some a->em (bk.cons (Z 4 0 [AZ m r A])) bs a=true:=λa k dd=>eQ ((z.2.1 a k dd).trans (by rw[dO,ao B]));have bS:dM p≠some i:=λx=>by have:=(d.th.c i x).1;omega
   have fs:=fv i (by have:=q.ok.sz;omega) bS;have p4:=(z.2.1 i (by have:=q.ok.sz;omega) bS).trans p3;have eW:(AZ m r A).fg=true/\(AZ m r A).cells=[D m.pC,r,A,D m.dI]:=by simp[AZ,T.cells,ap.ga.fg,ap.gb.fg,ap.ga.cells,ap.gb.cells]
   have gk:AZ m r A= .agg [D m.pC,r,A,D m.dI]:=rfl;simp[U,V,W,bl,p3,eM,fA,eW,fs,p4,z.1.fg,z.1.cells,dN];rw[ij B B];simp;refine⟨o+1,B,B,⟨bN,S++[AZ m r A],λw=>if w=(h.dC.take o).length then h'.size else bB w,λw=>if w=(h.dC.take o).length then bk.size else bu w,av+1,?_⟩,U,V,W,J⟩;have gM:=z.2.2.2.sz;have gP:=q.ok.sz;have gq:∀a,a<h'.size->a≠i->dM p≠some a->(dT bs i (Z 7 (av+1) [.agg [s,D h.fk.tx,u,v,C,E,bN]])).get a=h'.get a:=λa k e3 dd=>by
    rw[dF p4,ao e3,z.2.1 a B dd,q.get a k]
   have R:∀a,a<=i->dM p≠some a:=λa k x=>by have:=(d.th.c a x).1;omega
   have er:gH 0 bs:=⟨z.2.2.2.hp,z.2.2.2.low,aw _⟩;refine⟨⟨⟨(er.put _ _).hp,(er.put _ _).low,by rw[fI];have:=d.nb.ok.sz;omega⟩,λa k=>(gq a B B (R a B)).trans (d.nb.get a k)⟩,
    (gq _ B B (R _ B)).trans d.b1,(gq _ B B (R _ B)).trans d.b2,(dF p4 _ _).trans (aq rfl),
    d.gc.mono λa x=>gq a (by have:=bC a x;omega) (eu a x).1 (R a (by have:=bC a x;omega)),d.gf.mono λa x=>gq a (by have:=bH a x;omega) (ey a x).1 (R a (by have:=bH a x;omega)),?_⟩
   have fB:=(d.th.app dm q ap z).mono (h':=dT bs i (Z 7 (av+1) [.agg [s,D h.fk.tx,u,v,C,E,bN]])) (by rw[fI];exact au _) λa x _=>by rw[dF p4,ao B]
   have e4:h.dC.take (o+1)=h.dC.take o++[m]:=by rw[List.take_add_one,bz];rfl
   rw[e4];exact fB
  ·have eX:o=h.dC.length:=by
    have:¬o<h.dC.length:=by simpa using c7
    omega
   subst eX;have bn:=d.th;rw[aJ]at bn;have bS:∀a,dM p=some a->i+1<=a:=λa x=>(d.th.c a x).1;simp[U,V,W,bl,d.b1,d.b2,d.b3,b8,b9,ca,cb,ce,cp,eP,eR,eU,eV,bn.g.fg,bn.g.cells,dN,dF d.b2];have bi:∀a,a≠f.size+1->(lM f (dT h' (f.size+1) (Z 7 1 [.agg [s,D h.fk.tx,u,v,C,E,p]]))).get a=h'.get a:=λa k=>by rw[fO,dF d.b2,ao k]
   refine⟨s,u,v,C,E,p,S,bB,bu,i+1,rfl,⟨⟨((gH.put (n:=0) ⟨d.nb.ok.hp,d.nb.ok.low,aw _⟩ _ _).out f).hp,((gH.put (n:=0) ⟨d.nb.ok.hp,d.nb.ok.low,aw _⟩ _ _).out f).low,by rw[vZ,fI];exact d.nb.ok.sz⟩,λa k=>(bi a B).trans (d.nb.get a k)⟩,B,by rw[vZ,fI];exact H.ej d.b3,⟨b8,b9,ca,cb,ce,cp⟩,
    d.gc.mono λa x=>bi a (eu a x).2,d.gf.mono λa x=>bi a (ey a x).2,bC,bH,bn.mono (by rw[vZ,fI];exact au _) λa x _=>bi a B⟩
 ·refine⟨dw,[],λ_=>0,λ_=>0,1,⟨fb,eI,eL,eO,c4,c6,⟨Gr.nil _ _,rfl,λw e m x=>by simp at x,λw x=>by simp at x,λw j x y=>by simp at y,λa x=>by simp at x⟩⟩,J⟩
section
def PO{j:Out}{e f:iq}(o:W j e)(q:∀d h,e.n d h->f.n d h)(v:∀i d h,e.x i d h->f.x i d h)(u:∀d h,e.r d h->f.r d h):W j f:=by
 obtain⟨l,d,h,m,g⟩:=o;refine⟨l,d,h,m,?_⟩;cases l with
 |normal=>exact q d h g
 |exit i=>exact v i d h g
 |ret=>exact u d h g
def Qb{cx:Ctx}{cf:iH}{z y id:Nat}{u:DL}{t:Bool}{a b:Code}{m:Env->H->Out}{d:Env}{h:H}{f:iq}(l:fH->H->Prop)(v:CK (some (.bool t)) cx cf z y u a b d h (EQ m (qS id (xn (λd h=>d.tmps= .nil/\l d.vars h) f))))
 (C:∀o h,l o h->f.n ⟨o,.nil⟩ h):CK (some (.bool t)) cx cf z y u a b d h (EQ m (qS id f)):=by
 have q:∀d h,(d.tmps= .nil/\l d.vars h)->f.n d h:=λd h ⟨e,w⟩=>by obtain⟨o,E⟩:=d;simp only at e w;subst e;exact C o h w
 have A:∀g,W g (qS id (xn (λd h=>d.tmps= .nil/\l d.vars h) f))->W g (qS id f):=λg r=>PO r q (λi d h e=>by
  rw[yx]at e|-;split
  ·rename_i j;rw[aq j]at e;exact q d h e
  ·rename_i j;rw[ao j]at e;exact e) λ_ _ e=>e
 have x:∀g,W g (EQ m (qS id (xn (λd h=>d.tmps= .nil/\l d.vars h) f)))->W g (EQ m (qS id f)):=λg r=>PO r (λd h e=>A _ e) (λi d h e=>by
  rw[VJ,yx]at e|-;split
  ·rename_i j;rw[aq j]at e;exact q d h e
  ·rename_i j;rw[ao j]at e;exact e) λ_ _ e=>e
 cases t
 ·exact x _ v
 ·exact x _ v
structure StI(s:iw):Prop where
 l:s.fk.dW.length<=1000/\s.fk.done.length<=1000/\s.fk.dC.length<=1000/\s.cells.length<=1000/\s.dU.length<=1000/\s.dC.length<=1000
 r:HE 4 s.fk
 a:s.fk.El
 t:∀t∈s.dC,Uv 1000000 t
def Wb(d:Nat)(s:iw):Prop:=∀t∈s.dC,0<=t.dI/\t.dI<=d
def ZE(s:iw)(j:T):Prop:=∃(d:iw) (f:dY) (g:Bool),j= .tuple [d.t,f.t,.bool g]/\evN 1000000 f/\(g=true->StI d/\∀e:Nat,Wb e s->Wb (e+1) d)
def AJ.JZ{lo l hi j:Nat}{h h':H}{a b:T}{es:List T}{s:dX}(t:AJ lo hi h a b es s)(hl:l<=lo)(r:hi<=j)(f:∀e,(e=a\/e=b\/e∈es)->∀c,dM e=some c->h'.get c=h.get c):AJ l j h' a b es s:=
 ⟨t.ga.mono λc d=>f a (.inl rfl) c d,t.gb.mono λc d=>f b (.inr (.inl rfl)) c d,t.el.imp_mem λm n u d=>⟨d.1.mono λc g=>f m (.inr (.inr n)) c g,λc g=>by
   have⟨v,w,o,q⟩:=d.2 c g;exact⟨B,B,o,q⟩⟩,λc d=>by have:=t.ba c d;exact⟨B,B,this.2.2⟩,λc d=>by have:=t.bb c d;exact⟨B,B⟩⟩
def AJ.fzB{lo hi:Nat}{h:H}{a b:T}{es:List T}{s:dX}(t:AJ lo hi h a b es s)(o:Nat->Prop)(n:∀m,(m=a\/m=b\/m∈es)->∀c,dM m=some c->o c):ir (FT h o 3) [D s.pC,a,b,D s.dI] s.cs:=
 .cons (fZ ..) (.cons ((show oQ h 1 a (gF s.iF)from .inr t.ga).ft (d:=1) (GR _) λc g=>n a (.inl rfl) c g)
  (.cons (t.gb.ft (λc g=>n b (.inr (.inl rfl)) c g) ((t.el.imp_mem (R':=λe j=>oQ h 1 e (gF j)/\e∈es) λe q j l=>⟨l.1,q⟩).VB (f:=λj=>sl (gF j)) λe j l=>l.1.ft (d:=0) (GR _) λc g=>n e (.inr (.inr l.2)) c g)) (.cons (fZ ..) .nil)))
def Bi{g j:Type}{l:g->j->Prop}:∀{e:List g} {f:List j},e.length=f.length->(∀(d:Nat) (a:g) (b:j),e[d]? =some a->f[d]? =some b->l a b)->ir l e f
 | [],[],_,_=> .nil
 |a::e,b::f,hl,h=> .cons (h 0 a b rfl rfl) (Bi (by simpa using hl) λd o q m n=>h (d+1) o q (by simpa using m) (by simpa using n))
 | [],_::_,hl,_=>by simp at hl
 |_::_,[],hl,_=>by simp at hl
structure SJ(c:jG)(s:iw)(ch:iW)(i:fD)(S:fa)(k p n0:Nat)(cc cf ct:T)(es:List T)(lo hi:Nat->Nat)(a b:T)(el:List T)(t:dX)(h:H):Prop where
 ok:gH 0 h
 z:p+1+1<=h.size
 n7:7<=n0
 np:n0<=p
 b0:h.get 0=some (Z 7 0 [c.t])
 b1:h.get 1=some (Z 7 2 [.agg [sl (S.dW.map dP.t),D S.tx,sl (S.done.map T.bool),sl (S.dC.map dE.t),cc,cf,ct]])
 b2:h.get 2=some (Z 2 0 [ch.t])
 b3:h.get 3=some (Z 7 0 [.agg [dw,D 0,dw,dw,dw,dw,dw]])
 b4:h.get 4=some (Z 7 0 [.agg [D 0,D 0,D 0,D 0,D 0,dw,dw]])
 bq:h.get (p+1)=some (Z 6 1 [i.t])
 gc:∃l,Gr h cc 1 (gF l)/\l.length=s.cells.length
 gf:∃l,Gr h cf 1 (gF l)/\l.length=s.dU.length
 bc:∀c,dM cc=some c->7<=c/\c<n0
 bf:∀c,dM cf=some c->7<=c/\c<n0/\dM cc≠some c
 gt:Gr h ct 4 es
 l:es.length=s.dC.length
 m:∀j,j<s.dC.length->n0<=lo j/\hi j<=p
 d:∀i j,i<j->j<s.dC.length->hi i<=lo j
 bt:∀c,dM ct=some c->n0<=c/\c<p/\∀j,j<s.dC.length->¬(lo j<=c/\c<hi j)
 o:∀(j:Nat) (e:T) (u:dX),j≠k->es[j]? =some e->s.dC[j]? =some u->FT h (λc=>lo j<=c/\c<hi j) 4 e u.t
 hk:k<s.dC.length
 ek:∃x y,es[k]? =some (.agg [D x,a,b,D y])
 tx:AJ 7 h.size h a b el t
 xb:∀v,(v=a\/v=b\/v∈el)->∀c,dM v=some c->lo k<=c/\(c<hi k\/p+1<c)
section
variable {c:jG}{s:iw}{ch:iW}{i:fD}{S:fa}{k p n0:Nat}{cc cf ct:T}{es:List T}{lo hi:Nat->Nat}{a b:T}{el Mr:List T}{t t':dX}{h h':H}
def SJ.gen(e:SJ c s ch i S k p n0 cc cf ct es lo hi a b el t h)(N:gH 0 h')(X:h.size<=h'.size)(u:∀c,c<h.size->c≠5->c≠p->dM cc≠some c->dM cf≠some c->dM a≠some c->dM b≠some c->h'.get c=h.get c)
 (F:∃r,Gr h' cc 1 (gF r)/\r.length=s.cells.length) (G:∃r,Gr h' cf 1 (gF r)/\r.length=s.dU.length) (O:AJ 7 h'.size h' a b Mr t') (Q:∀w,(w=a\/w=b\/w∈Mr)->∀c,dM w=some c->lo k<=c/\(c<hi k\/p+1<c)):
 SJ c s ch i S k p n0 cc cf ct es lo hi a b Mr t' h':=by
 have Y:=e.z;have L:=e.n7;have M:=e.np;have V:=e.m k e.hk;have v:∀q,q<7->dM cc≠some q/\dM cf≠some q/\dM a≠some q/\dM b≠some q:=λq g=>⟨λf=>by have:=e.bc q f;omega,λf=>by have:=e.bf q f;omega,λf=>by have:=(e.tx.ba q f).1;omega,λf=>by have:=(e.tx.bb q f).1;omega⟩;have n:∀q,q<7->q≠5->h'.get q=h.get q:=λq g I=>u q B I B (v q g).1 (v q g).2.1 (v q g).2.2.1 (v q g).2.2.2;have j:∀q,dM a=some q\/dM b=some q->lo k<=q/\(q<hi k\/p+1<q):=λq f=>f.elim (λf=>e.xb a (.inl rfl) q f) λf=>e.xb b (.inr (.inl rfl)) q f;refine⟨N,B,L,M,(n 0 B B).trans e.b0,(n 1 B B).trans e.b1,(n 2 B B).trans e.b2,(n 3 B B).trans e.b3,(n 4 B B).trans e.b4,?_,F,G,e.bc,e.bf,e.gt.mono λq f=>?_,e.l,e.m,e.d,e.bt,λi E P x K A=>?_,e.hk,e.ek,O,Q⟩
 ·refine(u (p+1) B B B (λf=>?_) (λf=>?_) (λf=>?_) λf=>?_).trans e.bq
  ·have:=e.bc _ f;omega
  ·have:=e.bf _ f;omega
  ·have:=j _ (.inl f);omega
  ·have:=j _ (.inr f);omega
 ·have C:=e.bt q f;have W:=C.2.2 k e.hk;refine u q B B B (λf=>?_) (λf=>?_) (λf=>?_) λf=>?_
  ·have:=e.bc _ f;omega
  ·have:=e.bf _ f;omega
  ·have:=j _ (.inl f);omega
  ·have:=j _ (.inr f);omega
 ·have y:i<s.dC.length:=(List.getElem?_eq_some_iff.1 A).1;have U:=e.m i y;have R:hi i<=lo k\/hi k<=lo i:=by
   rcases Nat.lt_or_gt_of_ne x with q|q
   ·exact .inl (e.d i k q e.hk)
   ·exact .inr (e.d k i q y)
  refine(e.o i E P x K A).mono λq g=>⟨g,u q B B B (λf=>?_) (λf=>?_) (λf=>?_) λf=>?_⟩
  ·have:=e.bc _ f;omega
  ·have:=e.bf _ f;omega
  ·have:=j _ (.inl f);omega
  ·have:=j _ (.inr f);omega
def SJ.mono(d:SJ c s ch i S k p n0 cc cf ct es lo hi a b el t h)(y:gH 0 h')(l:h.size<=h'.size)(g:∀c,c<h.size->c≠5->c≠p->h'.get c=h.get c):SJ c s ch i S k p n0 cc cf ct es lo hi a b el t h':=by
 have I:=d.z;have F:=d.n7;have G:=d.np;have E:=d.m k d.hk;have⟨l1,q,n⟩:=d.gc;have⟨l2,r,o⟩:=d.gf;refine d.gen y l (λc u v w _ _ _ _=>g c u v w) ⟨l1,q.mono λe f=>?_,n⟩ ⟨l2,r.mono λe f=>?_,o⟩ (d.tx.JZ (au _) l λC j e f=>?_) d.xb
 ·have:=d.bc e f;exact g e B B B
 ·have:=d.bf e f;exact g e B B B
 ·have:=d.xb C j e f;have x:e<h.size:=by
   rcases j with rfl|rfl|j
   ·exact(d.tx.ba e f).2.1
   ·exact(d.tx.bb e f).2
   ·have⟨_,A⟩:=d.tx.el.left j;exact(A.2 e f).2.1
  exact g e x B B 
def SJ.cell(e:SJ c s ch i S k p n0 cc cf ct es lo hi a b el t h){f n q:Nat}{o:Bool}{u:List T}(v:dM cc=some f)(w:h.get f=some ⟨1,n,q,o,false,u⟩)(g:Nat)(j:Int):SJ c s ch i S k p n0 cc cf ct es lo hi a b el t (dT h f ⟨1,n,q+1,o,false,u.set g (D j)⟩)/\∀d,d=5\/d=p->(dT h f ⟨1,n,q+1,o,false,u.set g (D j)⟩).get d=h.get d:=by
 have L:=e.n7;have M:=e.np;have I:=e.bc f v;have K:=e.m k e.hk;have⟨l1,A,y⟩:=e.gc;have⟨l2,C,z⟩:=e.gf;have l:∀d,(dT h f ⟨1,n,q+1,o,false,u.set g (D j)⟩).get d=if d=f then some ⟨1,n,q+1,o,false,u.set g (D j)⟩else h.get d:=λd=>dF w _ d;refine⟨e.gen (e.ok.put _ _) (by rw[fI];exact au _) (λd _ _ _ E _ _ _=>(l d).trans (ao λr=>E (by rw[r];exact v))) ⟨l1.set g j,?_,by simpa using y⟩ ⟨l2,C.mono λd r=>(l d).trans (ao λx=>(e.bf d r).2.2 (by rw[x];exact v)),z⟩ (e.tx.JZ (au _) (by rw[fI];exact au _) λG F d r=>(l d).trans (ao λx=>?_)) e.xb,λd hr=>(l d).trans (ao B)⟩
 ·have:=A.setAt v w g (D j) ((l f).trans (aq rfl));simpa[gF,bO]using this
 ·have:=e.xb G F d r;omega
def SJ.fut(e:SJ c s ch i S k p n0 cc cf ct es lo hi a b el t h){f n q:Nat}{o:Bool}{u:List T}(v:dM cf=some f)(w:h.get f=some ⟨1,n,q,o,false,u⟩)(g:Nat)(j:Int):SJ c s ch i S k p n0 cc cf ct es lo hi a b el t (dT h f ⟨1,n,q+1,o,false,u.set g (D j)⟩)/\∀d,d=5\/d=p->(dT h f ⟨1,n,q+1,o,false,u.set g (D j)⟩).get d=h.get d:=by
 have L:=e.n7;have M:=e.np;have y:=e.bf f v;have K:=e.m k e.hk;have⟨l1,C,z⟩:=e.gc;have⟨l2,E,A⟩:=e.gf;have l:∀d,(dT h f ⟨1,n,q+1,o,false,u.set g (D j)⟩).get d=if d=f then some ⟨1,n,q+1,o,false,u.set g (D j)⟩else h.get d:=λd=>dF w _ d;refine⟨e.gen (e.ok.put _ _) (by rw[fI];exact au _) (λd _ _ _ _ F _ _=>(l d).trans (ao λr=>F (by rw[r];exact v))) ⟨l1,C.mono λd r=>(l d).trans (ao λx=>y.2.2 (by rw[<-x];exact r)),z⟩ ⟨l2.set g j,?_,by simpa using A⟩ (e.tx.JZ (au _) (by rw[fI];exact au _) λI G d r=>(l d).trans (ao λx=>?_)) e.xb,λd hr=>(l d).trans (ao B)⟩
 ·have:=E.setAt v w g (D j) ((l f).trans (aq rfl));simpa[gF,bO]using this
 ·have:=e.xb I G d r;omega
end
def vi{d k:Int}(h:mm d=k)(f:k≠0):(k=3->d=6\/d=7)/\(k=4->d=8\/d=9)/\(k=5->d=10)/\(k=22->d=26)/\(k=23->d=27):=by
 have g:6<=d/\d<=28:=by
  unfold mm at h;split at h
  ·exact absurd h.symm f
  ·omega
 have e:d=6\/d=7\/d=8\/d=9\/d=10\/d=11\/d=12\/d=13\/d=14\/d=15\/d=16\/d=17\/d=18\/d=19\/d=20\/d=21\/d=22\/d=23\/d=24\/d=25\/d=26\/d=27\/d=28:=B;rcases e with rfl|rfl|rfl|rfl|rfl|rfl|rfl|rfl|rfl|rfl|rfl|rfl|rfl|rfl|rfl|rfl|rfl|rfl|rfl|rfl|rfl|rfl|rfl<;>simp[mm,wh]at h<;>omega
def HM(p:Nat)(d:fH):Prop:=dy d 3 (.ptr 0 0 0 0)/\dy d 4 (.ptr 1 0 0 0)/\dy d 5 (.ptr 2 0 0 0)/\dy d 6 (.ptr 3 0 0 0)/\dy d 7 (.ptr 4 0 0 0)/\dy d 9 (.ptr 5 0 0 0)/\dy d 14 (.ptr p 0 0 0)/\dy d 15 (.ptr (p+1) 0 0 0)
def Ev9(d:dY)(h:H):Prop:=∃e f,h.get 5=some (Z 7 f [dY.t ⟨d.dQ,d.kind,d.obj,e,d.iQ,d.mo,d.uA⟩])
def Th9(p:Nat)(a b:T)(e f:Int)(h:H):Prop:=∃d,h.get p=some (Z 4 d [.agg [D e,a,b,D f]])
def SJ.K4{c:jG}{s:iw}{ch:iW}{i:fD}{S:fa}{k p n0:Nat}{cc cf ct:T}{es:List T}{lo hi:Nat->Nat}{a b:T}{el:List T}{t:dX}{h:H}(e:SJ c s ch i S k p n0 cc cf ct es lo hi a b el t h){u:iI}(j:h.get 5=some u){l m:Int}(ht:Th9 p a b l m h)(d:dY)(f:Int)(g:Nat):
 SJ c s ch i S k p n0 cc cf ct es lo hi a b el t (dT h 5 (Z 7 g [dY.t ⟨d.dQ,d.kind,d.obj,f,d.iQ,d.mo,d.uA⟩]))/\Ev9 d (dT h 5 (Z 7 g [dY.t ⟨d.dQ,d.kind,d.obj,f,d.iQ,d.mo,d.uA⟩]))/\Th9 p a b l m (dT h 5 (Z 7 g [dY.t ⟨d.dQ,d.kind,d.obj,f,d.iQ,d.mo,d.uA⟩])):=by
 have v:=e.n7;have w:=e.np;obtain⟨r,o⟩:=ht;exact⟨e.mono (e.ok.put _ _) (by rw[fI];exact au _) λq _ n _=>(dF j _ q).trans (ao n),⟨f,g,(dF j _ 5).trans (aq rfl)⟩,⟨r,(dF j _ p).trans ((ao B).trans o)⟩⟩
def agi(p:Nat)(ct:T)(m:Int)(h:H):Prop:=∃j d e l g n,h.get p=some (Z 4 n [.agg [D j,d,e,D l]])/\d.fg=true/\d.cells=[d]/\e.fg=true/\e.cells=[e]/\ir (FT h (λf=>f<h.size/\f≠p/\7<=f/\dM ct≠some f) 3) [D j,d,e,D l] (dX.cs g)/\Uv 1000000 g/\(g.dI=m+1\/g.dI=0)
def Ge:mW prog cx 129 (λa:jG×iw×iW=>[a.1.t,a.2.1.t,a.2.2.t]) (λa=>(∀x∈a.1.dC,x.iY.length<=10000001)/\StI a.2.1/\Wb 999000 a.2.1) (λa=>ZE a.2.1):=by
 refine xN (tb:=⟨pt [(160,zG.ji),(120,sg)],ht [(175,jr iw U8 Ns),(176,jr Xj Na BU)]⟩) iB gW (iP 12259964349774246101165194645239424850975965214878597119 [(41,[(1,2)])] func129) (λ_=>100) (λa b h=>by simp at h;exact aI (jG.inj h.1) (aI (iw.inj h.2.1) (iW.inj h.2.2))) J nl9 ?_;rintro⟨c,s,ch⟩ ⟨gE,P,gB⟩ b8 hC;simp only at gE P gB;simp at hC;obtain⟨gk,aA,aE⟩:=hC;have lD:ZA 1000000 s:=λt ht b7 hl=>((P.t t ht).tn b7 hl).1;obtain⟨_,⟨y,hV,rfl,lv,hL⟩,ho⟩:=zG.use (c,s,ch.dQ) ⟨gE,lD⟩;simp only at ho hL;have hK:ZE s (.tuple [iw.t ⟨⟨[],0,[],[]⟩,[],[],[]⟩,dY.t ⟨0,0,0,0,0,[],[]⟩,.bool false]):=⟨_,_,_,rfl,⟨J,J⟩,J⟩;simp[f129,gk,aA,aE,ho];cases hV with
 |false=>
  simp;exact hK
 |true=>
 have⟨t,x,i,a7⟩:=hL rfl;have⟨q0,q2⟩:=Hi a7.f.v;have lC:MM s.fk:=⟨by have:=P.l;omega,by have:=P.l;omega,by have:=P.l;omega,λb7 hl=>by have:=P.r.len P.a b7 hl;omega,P.a⟩;have hj:rl prog cx ⟨pt [(160,zG.ji),(120,sg)],ht [(175,jr iw U8 Ns),(176,jr Xj Na BU)]⟩ 120 [c.ew.t,s.fk.t,D ch.dQ,D y.kind,D y.obj,D ch.Et]=some (xG (c.ew,s.fk,ch.dQ,y.kind,y.obj,ch.Et)):=
  gG J D0 (c.ew,s.fk,ch.dQ,y.kind,y.obj,ch.Et) ⟨dq,lC⟩
 cases gy:jw c.ew s.fk ch.dQ y.kind y.obj with
 |false=>
  simp[gk,aA,aE,hj,xG,gy];exact hK
 |true=>
 simp[gk,aA,aE,hj,xG,gy];generalize lc:ei c.ew s.fk ch.dQ y.kind y.obj ch.Et=ie at*
 obtain⟨S,w⟩:=ie;simp;have hl:=P.l;generalize ca:H.cons _ _=c1;have hS:gH 0 c1:=by rw[<-ca];exact⟨J,J,J⟩
 have ov:c1.size=7:=by rw[<-ca];rfl
 have n1:c1.get 0=some (Z 7 0 [c.t]):=by rw[<-ca];simp
 have n2:c1.get 1=some (Z 7 0 [s.t]):=by rw[<-ca];simp
 have n5:c1.get 2=some (Z 2 0 [ch.t]):=by rw[<-ca];simp
 have n8:c1.get 3=some (Z 7 0 [.agg [dw,D 0,dw,dw,dw,dw,dw]]):=by rw[<-ca];simp
 have n9:c1.get 4=some (Z 7 0 [.agg [D 0,D 0,D 0,D 0,D 0,dw,dw]]):=by rw[<-ca];simp
 have od:c1.get 5=some (Z 7 1 [y.t]):=by rw[<-ca];simp
 have oi:c1.get 6=some (Z 4 1 [S.t]):=by rw[<-ca];simp
 clear ca;refine iD N7 J s ⟨rfl,hS,⟨rfl,hS,B,B,B,λb7 q=>by have:=P.r.len P.a b7 q;omega⟩,B,B,B,λu eA=>⟨by have:=(P.t u eA).rl;omega,by have:=(P.t u eA).tl;omega,λb7 q=>((P.t u eA).tn b7 q).1⟩⟩ ?_;rintro _ dv ⟨oT,oV,oW,cc,cf,ct,es,lo,hi,n0,rfl,G⟩;have oj:=G.nb.ok.sz;have ib:=G.z;rw[ov]at oj ib;have a1:=(G.nb.get 1 B).trans n2;have a6:=(G.nb.get 6 B).trans oi;have a2:=(G.nb.get 2 B).trans n5;have a0:=(G.nb.get 0 B).trans n1;have⟨eI,kD,eL,de,cp,k2⟩:=G.k0;have p1:∀C,(dT dv 1 C).get 1=some C:=λC=>(dF a1 C _).trans (aq rfl);have p6:∀C,(dT dv 1 C).get 6=dv.get 6:=λC=>(dF a1 C _).trans (ao B);simp[a1,eI,kD,eL,de,cp,k2,G.gc.fg,G.gc.cells,G.gf.fg,G.gf.cells,G.th.g.fg,G.th.g.cells,dN,p1,p6,a6];generalize eO:dT (dT dv 1 _) 1 _=F;have q3:F.size=dv.size:=by rw[<-eO];simp
 have mj:gH 0 dv:=⟨G.nb.ok.hp,G.nb.ok.low,aw _⟩;have okB:gH 0 F:=by rw[<-eO];exact(mj.put _ _).put _ _
 have hY:=(show F.get 1=some (Z 7 2 [.agg [sl (S.dW.map dP.t),D S.tx,sl (S.done.map T.bool),sl (S.dC.map dE.t),cc,cf,ct]])by rw[<-eO];exact(dF (p1 _) _ _).trans (aq rfl));have dk:∀k,k≠1->F.get k=dv.get k:=λk c4=>by rw[<-eO,dF (p1 _),ao c4,dF a1,ao c4]
 clear eO p1 p6;have hX:=(dk 0 B).trans a0;have hZ:=(dk 2 B).trans a2;have m3:=(dk 5 B).trans ((G.nb.get 5 B).trans od);have m1:=(dk 3 B).trans ((G.nb.get 3 B).trans n8);have m2:=(dk 4 B).trans ((G.nb.get 4 B).trans n9);have R:=G.th.mono (h':=F) B λk c4 _=>dk k B;have c4:=a7.n;rw[<-a7.f.th]at c4;have⟨e9,aX⟩:=ff.1 c4;have di:=a7.ht;have gw:∃hq,es[ch.dQ.toNat]? =some hq:=⟨_,ay (by rw[R.l];exact aX)⟩;obtain⟨hq,e4⟩:=gw;obtain⟨a,b,el,rfl,dm⟩:=R.e _ _ _ e4 di;have⟨M,hs,h9,ext,ia,t1,t2,t3,t4⟩:=R.g.IG (te:=JC) rfl (i:=ch.dQ.toNat) (by rw[R.l];exact aX);rw[show es[ch.dQ.toNat]'(by rw[R.l];exact aX)=AZ t a b by rw[ay (by rw[R.l];exact aX)]at e4;simpa using e4]at t4;have jZ:=okB.low;have oA:∀k,k<7->(k=F.size)=False:=λk c4=>by simp;omega
 have oB:∀k,k<7->(k=F.size+1)=False:=λk c4=>by simp;omega
 have bz:=a7.hx;have hJ:=a7.hi;have⟨mC,qa,qb,qe⟩:=a7.f.t _ _ _ di bz;have nn:=ee mC;simp[hX,hY,hZ,t2,t3,t4,AZ,jZ,ee e9,oA,oB,dm.ga.fg,dm.ga.cells,dm.gb.fg,dm.gb.cells,bz,hJ,nn];have ps:F.size<F.size+1:=B;generalize ey:dT ((F.cons _).cons _) (F.size+1) _=bS;have q4:bS.size=F.size+1+1:=by rw[<-ey,fI];rfl
 have mq:gH 0 bS:=by rw[<-ey];exact((okB.cons _).cons _).put _ _
 have h6:bS.get F.size=some (Z 4 1 [.agg [D t.pC,a,b,D t.dI]]):=by rw[<-ey,mn ((okB.cons _).cons _).hp (by show _<F.size+1+1;omega),ao B,dO,ao (by show¬_=F.size+1;omega),dO,aq rfl]
 have m5:bS.get (F.size+1)=some (Z 6 1 [i.t]):=by rw[<-ey,mn ((okB.cons _).cons _).hp (by show _<F.size+1+1;omega),aq rfl]
 have h5:∀k,k<F.size->bS.get k=F.get k:=λk c4=>by
  rw[<-ey,mn ((okB.cons _).cons _).hp (by show _<F.size+1+1;omega),ao B,dO,ao (by show¬_=F.size+1;omega),dO,ao B]
 clear ey;have r5:=(h5 5 B).trans m3;have k1:∀C,(dT bS 5 C).get 5=some C:=λC=>(dF r5 C _).trans (aq rfl);simp[h6,r5,nG,dN,k1];have mA:gH 0 (dT bS 5 (Z 7 2 [dY.t ⟨y.dQ,y.kind,y.obj,w,y.iQ,y.mo,y.uA⟩])):=mq.put _ _;have e2:∀k,(dT bS 5 (Z 7 2 [dY.t ⟨y.dQ,y.kind,y.obj,w,y.iQ,y.mo,y.uA⟩])).get k=_:=λk=>dF r5 _ k;have q8:(dT bS 5 (Z 7 2 [dY.t ⟨y.dQ,y.kind,y.obj,w,y.iQ,y.mo,y.uA⟩])).size=bS.size:=fI ..;generalize dT bS 5 (Z 7 2 [dY.t ⟨y.dQ,y.kind,y.obj,w,y.iQ,y.mo,y.uA⟩])=bT at*
 have o5:ch.dQ.toNat<s.dC.length:=aX;have⟨qc,qL,pu,_,hb,hc,_,hd,_,_,h8,_⟩:=GS a7.f a7.n;rw[di]at hb;rw[bz]at hc;simp only[ar]at hb hc;subst hb;subst hc;rw[hJ]at hd;simp only[ar]at hd;subst hd;have eR:∀K:Int,y.kind=K->K≠1->K≠17->K≠0->mm i.op=K:=λK aA aE U aN=>by
  rcases a7.k with q|q|q
  ·omega
  ·omega
  ·omega
 have gz:=gy;unfold jw at gz;simp only[az]at gz;have e7:=gz.1.2;have hH:y.kind=3\/y.kind=4->iR y.obj s.cells.length=true:=λq=>by
  rw[a7.f.cl];unfold ju at e7;rcases q with q|q<;>simpa[q]using e7
 have hI:y.kind=22\/y.kind=23->iR y.obj s.dU.length=true:=λq=>by
  rw[a7.f.fu];unfold ju at e7;rcases q with q|q<;>simpa[q]using e7
 have h3:y.kind=3\/y.kind=23\/y.kind=5->0<=i.a/\i.a<x.iF:=λq=>by
  refine h8 _ ?_;unfold iK;rcases q with q|q|q
  ·rcases(vi (eR 3 q B B B) B).1 rfl with k|k<;>simp[k]
  ·simp[(vi (eR 23 q B B B) B).2.2.2.2 rfl]
  ·simp[(vi (eR 5 q B B B) B).2.2.1 rfl]
 have h4:y.kind=4\/y.kind=22->0<=i.b/\i.b<x.iF:=λq=>by
  refine h8 _ ?_;unfold iK;rcases q with q|q
  ·rcases(vi (eR 4 q B B B) B).2.1 rfl with k|k<;>simp[k]
  ·simp[(vi (eR 22 q B B B) B).2.2.2.1 rfl]
 have X:SJ c s ch i S ch.dQ.toNat F.size n0 cc cf ct es lo hi a b el t bT:=by
  have cb:∀k,k<F.size->k≠5->bT.get k=F.get k:=λk aA aE=>(e2 k).trans ((ao aE).trans (h5 k aA));have px:=R.m _ aX;have mb:n0<=F.size:=by have:=G.zn;omega
  refine⟨mA,B,ib,mb,(cb 0 B B).trans hX,(cb 1 B B).trans hY,(cb 2 B B).trans hZ,(cb 3 B B).trans m1,(cb 4 B B).trans m2,?_,
   ⟨_,G.gc.mono λq x=>?_,J⟩,⟨_,G.gf.mono λq x=>?_,J⟩,λq x=>?_,λq x=>?_,R.g.mono λq x=>?_,R.l,R.m,R.d,λq x=>?_,λj y u e5 gw eA=>?_,aX,⟨_,_,e4⟩,dm.JZ B B λbC e8 q x=>?_,λbC e8 q x=>?_⟩
  ·exact(e2 _).trans ((ao B).trans m5)
  ·have:=G.bc q x;exact(cb q B B).trans (dk q B)
  ·have:=G.bf q x;exact(cb q B B).trans (dk q B)
  ·have:=G.bc q x;omega
  ·have:=G.bf q x;exact⟨B,this.2.1,this.2.2⟩
  ·have⟨_,_,_,_,fE,_⟩:=R.g.box x;have:=(R.c q x).1;exact cb q (H.ej fE) B
  ·have⟨_,_,_,_,fE,_⟩:=R.g.box x;exact⟨(R.c q x).1,H.ej fE,(R.c q x).2⟩
  ·obtain⟨fv,fA,Mr,rfl,nr⟩:=R.e j y u gw eA;have lS:=R.m j (List.getElem?_eq_some_iff.1 eA).1;exact .inr (.inr ⟨_,_,rfl,(nr.mono (h':=bT) (au _) (au _) λq aA aE=>cb q B B).fz _ λq aA aE=>⟨aA,aE⟩,rfl⟩)
  all_goals
   have hF:lo ch.dQ.toNat<=q/\q<hi ch.dQ.toNat:=by
    rcases e8 with rfl|rfl|e8
    ·have:=dm.ba q x;omega
    ·exact dm.bb q x
    ·have⟨_,A⟩:=dm.el.left e8;have:=A.2 q x;exact⟨this.1,this.2.1⟩
  ·exact cb q B B
  ·exact⟨hF.1,.inl hF.2⟩
 refine Qb (λb8 h=>HM F.size b8/\(∃gV,dy b8 16 (D gV))/\SJ c s ch i S ch.dQ.toNat F.size n0 cc cf ct es lo hi a b el t h/\Ev9 y h/\Th9 F.size a b t.pC t.dI h) ?_ ?_
 ·have av:=(e2 5).trans (aq rfl);have eu:=(e2 F.size).trans ((ao B).trans h6);have eX:Ev9 y bT:=⟨w,2,av⟩;have c7:Th9 F.size a b t.pC t.dI bT:=⟨1,eu⟩;cases ce:decide (y.kind=1)with
  |true=>
   simp[ce,eu,HM];exact⟨X,eX,c7⟩
  |false=>
  cases dd:decide (y.kind=16)with
  |true=>
   simp[ce,dd,eu,HM];exact⟨X,eX,c7⟩
  |false=>
  cases dn:decide (y.kind=2)with
  |true=>
   simp[ce,dd,dn,eu,HM];exact⟨X,eX,c7⟩
  |false=>
  cases ds:decide (y.kind=3)with
  |true=>
   have⟨l1,bN,c6⟩:=X.gc;have b6:=ff.1 (hH (.inl (by simpa using ds)));have⟨p1,ap,b9⟩:=(show oQ bT 1 cc (gF l1)from .inr bN).idx (te:=FD) rfl rfl (i:=y.obj.toNat) (x:= D l1[y.obj.toNat]) (by simp[c6,b6.2]) rfl;simp[ce,dd,dn,ds,av,X.b1,ee b6.1,ap,b9,dN,HM];exact X.K4 av c7 y _ _
  |false=>
  cases er:decide (y.kind=23)with
  |true=>
   have⟨l1,bN,c6⟩:=X.gf;have b6:=ff.1 (hI (.inr (by simpa using er)));have⟨p1,ap,b9⟩:=(show oQ bT 1 cf (gF l1)from .inr bN).idx (te:=FD) rfl rfl (i:=y.obj.toNat) (x:= D l1[y.obj.toNat]) (by simp[c6,b6.2]) rfl;simp[ce,dd,dn,ds,er,av,X.b1,ee b6.1,ap,b9,dN,HM];exact X.K4 av c7 y _ _
  |false=>
  have fS:oQ bT 1 a (gF t.iF):= .inr X.tx.ga;have fm:∀x C:Int,lj (D x) 0 [D C]=some (D C):=λx C=>rfl;cases et:decide (y.kind=4)with
  |true=>
   have ha:=h4 (.inl (by simpa using et));have b6:=ff.1 (hH (.inr (by simpa using et)));have⟨p1,ap,b9⟩:=fS.idx (te:=FD) rfl rfl (i:=i.b.toNat) (x:= D t.iF[i.b.toNat]) (by simp[show i.b.toNat<t.iF.length by omega]) rfl;have⟨bB,bH,t5⟩:=X.K4 av c7 y t.iF[i.b.toNat] 3;have cp:=(dF av (Z 7 3 [dY.t ⟨y.dQ,y.kind,y.obj,t.iF[i.b.toNat],y.iQ,y.mo,y.uA⟩]) 5).trans (aq rfl);simp[ce,dd,dn,ds,er,et,av,eu,X.bq,ee ha.1,ap,b9,dN,HM];generalize dT bT 5 (Z 7 3 [dY.t ⟨y.dQ,y.kind,y.obj,t.iF[i.b.toNat],y.iQ,y.mo,y.uA⟩])=W at*
   have⟨l1,bN,c6⟩:=bB.gc;have⟨q,bl,nA,hv,nF,gQ,gS,eU,eV⟩:=bN.IG (te:=FD) rfl (i:=y.obj.toNat) (by simpa[c6]using b6.2);simp at eV;have⟨gP,eH⟩:=bB.cell gQ eU y.obj.toNat t.iF[i.b.toNat];simp[bB.b1,cp,ee b6.1,gS,eU,eV,fm];obtain⟨hg,hh,gM⟩:=bH;obtain⟨eC,ec⟩:=t5;exact⟨gP,⟨hg,hh,(eH 5 (.inl rfl)).trans gM⟩,eC,(eH _ (.inr rfl)).trans ec⟩
  |false=>
  cases eE:decide (y.kind=22)with
  |true=>
   have ha:=h4 (.inr (by simpa using eE));have b6:=ff.1 (hI (.inl (by simpa using eE)));have⟨p1,ap,b9⟩:=fS.idx (te:=FD) rfl rfl (i:=i.b.toNat) (x:= D t.iF[i.b.toNat]) (by simp[show i.b.toNat<t.iF.length by omega]) rfl;have⟨bB,bH,t5⟩:=X.K4 av c7 y t.iF[i.b.toNat] 3;have cp:=(dF av (Z 7 3 [dY.t ⟨y.dQ,y.kind,y.obj,t.iF[i.b.toNat],y.iQ,y.mo,y.uA⟩]) 5).trans (aq rfl);simp[ce,dd,dn,ds,er,et,eE,av,eu,X.bq,ee ha.1,ap,b9,dN,HM];generalize dT bT 5 (Z 7 3 [dY.t ⟨y.dQ,y.kind,y.obj,t.iF[i.b.toNat],y.iQ,y.mo,y.uA⟩])=W at*
   have⟨l1,bN,c6⟩:=bB.gf;have⟨q,bl,nA,hv,nF,gQ,gS,eU,eV⟩:=bN.IG (te:=FD) rfl (i:=y.obj.toNat) (by simpa[c6]using b6.2);simp at eV;have⟨gP,eH⟩:=bB.fut gQ eU y.obj.toNat t.iF[i.b.toNat];simp[bB.b1,cp,ee b6.1,gS,eU,eV,fm];obtain⟨hg,hh,gM⟩:=bH;obtain⟨eC,ec⟩:=t5;exact⟨gP,⟨hg,hh,(eH 5 (.inl rfl)).trans gM⟩,eC,(eH _ (.inr rfl)).trans ec⟩
  |false=>
  cases fC:decide (y.kind=5)with
  |false=>
   simp[ce,dd,dn,ds,er,et,eE,fC,HM];exact⟨X,eX,c7⟩
  |true=>
   have fl:=h3 (.inr (.inr (by simpa using fC)));have⟨p1,ap,b9⟩:=fS.idx (te:=FD) rfl rfl (i:=i.a.toNat) (x:= D t.iF[i.a.toNat]) (by simp[show i.a.toNat<t.iF.length by omega]) rfl;have⟨bB,bH,t5⟩:=X.K4 av c7 y 1 3;have cp:=(dF av (Z 7 3 [dY.t ⟨y.dQ,y.kind,y.obj,1,y.iQ,y.mo,y.uA⟩]) 5).trans (aq rfl);simp[ce,dd,dn,ds,er,et,eE,fC,av,dN,HM];generalize dT bT 5 (Z 7 3 [dY.t ⟨y.dQ,y.kind,y.obj,1,y.iQ,y.mo,y.uA⟩])=W at*
   have⟨p1,ap,b9⟩:=(show oQ W 1 a (gF t.iF)from .inr bB.tx.ga).idx (te:=FD) rfl rfl (i:=i.a.toNat) (x:= D t.iF[i.a.toNat]) (by simp[show i.a.toNat<t.iF.length by omega]) rfl;obtain⟨eC,ec⟩:=t5;have⟨hN,nw,t6⟩:=bB.K4 cp ⟨eC,ec⟩ y 0 4;have jC:=hN.bq;simp[ec,bB.bq,ee fl.1,ap,b9,cp,dN];refine dV (λq=>?_) (λq=>?_)
   ·simp[cp,dN,jC];exact⟨hN,nw,t6⟩
   ·simp;exact⟨bB,bH,eC,ec⟩
 ·rintro b8 h ⟨⟨U,aN,W,al,an,bu,bn,bs⟩,⟨ef,cL⟩,E,⟨bC,bH,bk⟩,c9,bl⟩;simp[U,aN,W,al,an,bu,bn,bs,cL,bk];have pE:=E.ok;refine lf (λb8 h=>HM F.size b8/\(∃gV,dy b8 16 (D gV))/\∃Mr t',t'.pC=t.pC/\t'.dI=t.dI/\Uv 1000000 t'/\SJ c s ch i S ch.dQ.toNat F.size n0 cc cf ct es lo hi a b Mr t' h/\Ev9 y h/\Th9 F.size a b t.pC t.dI h) (λO=>?_) (λO=>?_) ?_
  ·have fl:=h3 (by simpa[or_assoc]using(by simpa using O:y.kind=3\/y.kind=23).elim .inl λq=> .inr (.inl q));have pa:el.length=t.jS.length:=E.tx.el.length;have k8:i.a.toNat<t.iF.length:=B;have k9:i.a.toNat<el.length:=B;have⟨a8,kg,nB,kk,nX,eP,la,gp,hD⟩:=E.tx.ga.IG (te:=FD) rfl (i:=i.a.toNat) (by simpa using k8);simp at hD;have fm:∀x C:Int,lj (D x) 0 [D C]=some (D C):=λx C=>rfl;have lX:=E.n7;have pD:=E.np;have pn:=E.z;have hG:=E.tx.ba a8 eP;have pe:=E.xb a (.inl rfl) a8 eP;have pb:=E.m _ E.hk;simp[U,aN,W,al,an,bu,bn,bs,cL,bl,bk,E.bq,ee fl.1,la,gp,hD,fm];generalize lR:iI.mk 1 kg (nB+1) kk false (nX.set i.a.toNat (D bC))=eh at*
   have eD:∀A,(dT h a8 eh).get A=if A=a8 then some eh else h.get A:=λA=>dF gp eh A;have mi:gH 0 (dT h a8 eh):=E.ok.put _ _;have q1:(dT h a8 eh).size=h.size:=fI ..;have j0:=(eD F.size).trans ((ao B).trans bl);have j5:=(eD (F.size+1)).trans ((ao B).trans E.bq);have j6:=(eD 5).trans ((ao B).trans bk);generalize o4:dT h a8 eh=Q at*
   have eM:Gr Q b 1 el:=E.tx.gb.mono λA hr=>(eD A).trans (ao λx=>hG.2.2 (by rw[<-x];exact hr));have⟨bi,eF,fo,e0,fs,ea,lg,e3,gv⟩:=(eM.mono (h':=Q.cons (Z 1 0 [D t.dI])) λA hr=>by rw[dO,ao (by have:=(E.tx.bb A hr).2;omega)]).IG (te:=qd) rfl (i:=i.a.toNat) k9;have⟨o0,lu,m4⟩:=E.tx.el.get (ay (show i.a.toNat<t.jS.length by omega));have nk:=H6 (x:= .arr Q.size 0 0 1 false) m4.1.na;replace gv:=gv.trans ((ay _).symm.trans lu);have lp:b= .arr bi eF 0 el.length false:=by
    have⟨_,_,_,_,q,y⟩:=(eM.mono (h':=Q.cons (Z 1 0 [D t.dI])) λA hr=>by rw[dO,ao (by have:=(E.tx.bb A hr).2;omega)]).box ea;rw[e3]at q;simp at q;rw[y,q.1]
   simp[U,aN,W,al,an,bu,bn,bs,cL,j0,j5,j6,ee fl.1,lg,e3,gv,nk];have o2:=E.tx.bb bi ea;have pm:=E.xb b (.inr (.inl rfl)) bi ea;have lb:a8≠bi:=λq=>hG.2.2 (by rw[q];exact ea);have mx:gH 0 (dT (Q.cons (Z 1 0 [D t.dI])) bi ⟨1,eF,fo+1,e0,false,fs.set i.a.toNat (.arr Q.size 0 0 1 false)⟩):=(mi.cons _).put _ _;have q7:(dT (Q.cons (Z 1 0 [D t.dI])) bi ⟨1,eF,fo+1,e0,false,fs.set i.a.toNat (.arr Q.size 0 0 1 false)⟩).size=h.size+1:=by rw[fI];show Q.size+1=_;omega
   have eW:∀A,(dT (Q.cons (Z 1 0 [D t.dI])) bi ⟨1,eF,fo+1,e0,false,fs.set i.a.toNat (.arr Q.size 0 0 1 false)⟩).get A=if A=bi then some ⟨1,eF,fo+1,e0,false,fs.set i.a.toNat (.arr Q.size 0 0 1 false)⟩else if A=Q.size then some (Z 1 0 [D t.dI])else if A=a8 then some eh else h.get A:=λA=>(dF e3 _ A).trans (by rw[dO,eD]);generalize dT (Q.cons _) bi _=gm at*
   have k7:=(eM.mono (h':=Q.cons (Z 1 0 [D t.dI])) λA hr=>by rw[dO,ao (by have:=(E.tx.bb A hr).2;omega)]).setAt ea e3 i.a.toNat (.arr Q.size 0 0 1 false) (h':=gm) ((eW bi).trans (aq rfl));have k5:=E.tx.ga.setAt eP gp i.a.toNat (D bC) (h':=gm) ((eW a8).trans ((ao lb).trans ((ao B).trans ((aq rfl).trans (by rw[lR])))));have eo:∀A,A<h.size->A≠a8->A≠bi->gm.get A=h.get A:=λA aA aE U=>(eW A).trans ((ao U).trans ((ao B).trans (ao aE)));have kb:∀A,dM a=some A->A=a8:=λA hr=>by rw[eP]at hr;simpa using hr.symm
   have kd:∀A,dM b=some A->A=bi:=λA hr=>by rw[ea]at hr;simpa using hr.symm
   have o3:=gB t (ax di);have gI:=P.t t (ax di);have fi:∀A,dM a≠some A->dM b≠some A->A≠a8/\A≠bi:=λA aA aE=>⟨λx=>aA (by rw[x];exact eP),λx=>aE (by rw[x];exact ea)⟩;refine⟨by simp[HM,U,aN,W,al,an,bu,bn,bs],el.set i.a.toNat (.arr Q.size 0 0 1 false),⟨t.pC,t.iF.set i.a.toNat bC,t.jS.set i.a.toNat [t.dI],t.dI⟩,rfl,rfl,⟨by simpa using gI.rl,by simpa using gI.tl,λb7 hl=>?_⟩,
    E.gen mx B (λA aA aE U _ _ al an=>eo A aA (fi A al an).1 (fi A al an).2) ?_ ?_ ⟨by simpa[gF,bO]using k5,k7,E.tx.el.set i.a.toNat ⟨.inr ?_,λA hr=>?_⟩ λy b7 q=>⟨q.1.mono λA hr=>?_,λA hr=>?_⟩,λA hr=>?_,λA hr=>?_⟩ λw hw A hr=>?_,⟨bC,bH,(eo 5 B B B).trans bk⟩,c9,(eo _ B B B).trans bl⟩
   ·rcases bZ hl with q|rfl
    ·exact gI.tn b7 q
    ·exact⟨J,λx bz=>by simp at bz;subst bz;omega⟩
   ·have⟨l1,eI,ap⟩:=E.gc;exact⟨l1,eI.mono λA hr=>by have:=E.bc A hr;exact eo A B B B,ap⟩
   ·have⟨l1,eI,ap⟩:=E.gf;exact⟨l1,eI.mono λA hr=>by have:=E.bf A hr;exact eo A B B B,ap⟩
   ·have:=Gr.new ((eW Q.size).trans ((ao B).trans (aq rfl)));simpa using this
   ·simp at hr;subst hr;exact⟨B,B,λq=>by have:=kb _ q;omega,λq=>by have:=kd _ q;omega⟩
   ·have⟨aX,hO,fb,fe⟩:=q.2 A hr;exact eo A hO (fi A fb fe).1 (fi A fb fe).2
   ·have⟨aX,hO,fb,fe⟩:=q.2 A hr;exact⟨aX,B,fb,fe⟩
   ·have:=E.tx.ba A hr;exact⟨this.1,B,this.2.2⟩
   ·have:=E.tx.bb A hr;exact⟨this.1,B⟩
   ·rcases hw with rfl|rfl|hw
    ·exact E.xb _ (.inl rfl) A hr
    ·exact E.xb _ (.inr (.inl rfl)) A hr
    ·rcases bZ hw with q|rfl
     ·exact E.xb w (.inr (.inr q)) A hr
     ·simp at hr;subst hr;omega
  ·simp[HM,U,aN,W,al,an,bu,bn,bs,cL];exact⟨el,t,rfl,rfl,P.t _ (ax di),E,⟨bC,bH,bk⟩,c9,bl⟩
  rintro b8 h ⟨⟨U,aN,W,al,an,bu,bn,bs⟩,⟨ef,cL⟩,Mr,t',pc,pd,eB,E,⟨bC,bH,bk⟩,c9,bl⟩;have eN:∀C,(dT h F.size C).get F.size=some C:=λC=>(dF bl C _).trans (aq rfl);have gi:∀C,∀q,q<7->(dT h F.size C).get q=h.get q:=λC q O=>(dF bl C _).trans (ao B);have gd:∀C I,(dT (dT h F.size C) F.size I).get F.size=some I:=λC I=>(dF (eN C) I _).trans (aq rfl);have gj:∀C I,∀q,q<7->(dT (dT h F.size C) F.size I).get q=h.get q:=λC I q O=>(dF (eN C) I _).trans ((ao B).trans (gi C q O));simp[U,aN,W,al,an,bu,bn,bs,cL,bk,bl,nG,dN,eN,gi,gd,gj];have lp:=gB t (ax di);have lG:IntKind.i64.wrap (t.dI+1)=t.dI+1:=by rw[<-jv,jD B B]
  rw[lG];have N5:gH 0 (dT (dT h F.size (Z 4 (c9+1) [.agg [D t.pC,a,b,D (t.dI+1)]])) F.size ⟨4,0,c9+1+1,true,false,[.agg [D ef,a,b,D (t.dI+1)]]⟩):=(E.ok.put _ _).put _ _;have L:=E.mono N5 (by rw[fI,fI];exact au _) λq _ _ O=>by rw[dF (eN _),ao O,dF bl,ao O]
  have hn:=(gj (Z 4 (c9+1) [.agg [D t.pC,a,b,D (t.dI+1)]]) ⟨4,0,c9+1+1,true,false,[.agg [D ef,a,b,D (t.dI+1)]]⟩ 5 B).trans bk;have gZ:=gd (Z 4 (c9+1) [.agg [D t.pC,a,b,D (t.dI+1)]]) ⟨4,0,c9+1+1,true,false,[.agg [D ef,a,b,D (t.dI+1)]]⟩;generalize dT (dT h F.size _) F.size _=hA at*
  clear eN gi gd gj E bl bk;refine lf (λb8 h=>HM F.size b8/\SJ c s ch i S ch.dQ.toNat F.size n0 cc cf ct es lo hi a b Mr t' h/\Ev9 y h/\agi F.size ct t.dI h) (λO=>?_) (λO=>?_) ?_
  ·have lE:=ax bz;simp[U,aN,W,al,an,bu,bn,bs,cL,L.b0,L.b2,ee e9,bz,gZ];refine iD NH J ⟨x,⟨ef,t'.iF,t'.jS,t.dI+1⟩,a,b,Mr,7,hA.size,1000000⟩ ⟨rfl,L.tx.same rfl rfl,au _,N5,⟨eB.rl,eB.tl,eB.tn⟩,au _,gE x lE⟩ ?_;rintro _ hE ⟨u,hV,rfl,hf,h7,q6,fL,hR⟩;have q5:=L.z;have hW:=(fL F.size B).trans gZ;have gg:∀C,∀q,(dT hE F.size C).get q=if q=F.size then some C else hE.get q:=λC q=>dF hW C q;simp[HM,U,aN,W,al,an,bu,bn,bs,cL,hW,dN];have ic:=L.mono (h':=hE) hR B λq O _ _=>fL q O;refine⟨ic.mono (hR.put _ _) (by rw[fI];exact au _) λq _ _ O=>(gg _ q).trans (ao O),⟨bC,bH,(gg _ 5).trans ((ao B).trans ((fL 5 B).trans hn))⟩,u.pC,sl (gF u.iF),sl (u.jS.map ZB),u.dI,u,_,(gg _ _).trans (aq rfl),J,J,J,J,?_,hf,h7⟩;exact .cons (fZ ..) (.cons (oy _ _ _ λx bz=>(GR _ x bz).1) (.cons (oy _ _ _ λx bz=>by obtain⟨b7,_,rfl⟩:=List.mem_map.1 bz;simp[ZB]) (.cons (fZ ..) .nil)))
  ·simp[HM,U,aN,W,al,an,bu,bn,bs,cL];refine⟨L,⟨bC,bH,hn⟩,_,_,_,_,⟨ef,t'.iF,t'.jS,t.dI+1⟩,_,gZ,L.tx.ga.fg,L.tx.ga.cells,L.tx.gb.fg,L.tx.gb.cells,(L.tx.same (s':=⟨ef,t'.iF,t'.jS,t.dI+1⟩) rfl rfl).fzB _ λw hw q x=>?_,⟨eB.rl,eB.tl,eB.tn⟩,.inl rfl⟩;have qo:=L.xb w hw q x;have qw:=L.m _ L.hk;have qE:=L.n7;have nE:q<hA.size:=by
    rcases hw with rfl|rfl|hw
    ·exact(L.tx.ba q x).2.1
    ·exact(L.tx.bb q x).2
    ·have⟨_,A⟩:=L.tx.el.left hw;exact(A.2 q x).2.1
   exact⟨nE,B,B,λC=>by have:=L.bt q C;have:=this.2.2 _ L.hk;omega⟩
  rintro b8 h ⟨⟨U,aN,W,al,an,bu,bn,bs⟩,E,⟨bC,bH,bk⟩,hP,fv,fA,hQ,u,qi,m0,k3,k4,eM,k6,nv,hf,h7⟩;have⟨M,hs,h9,ext,ia,t1,t2,t3,t4⟩:=E.gt.IG (te:=JC) rfl (i:=ch.dQ.toNat) (by rw[E.l];exact aX);have⟨hv,o1,lw⟩:=E.ek;replace t4:=t4.trans ((ay _).symm.trans lw);have oC:=E.bt M t1;have⟨l1,bN,c6⟩:=E.gc;have⟨l2,fY,lB⟩:=E.gf;generalize hM:iI.mk 4 hs (h9+1) ext false (ia.set ch.dQ.toNat (.agg [D hP,fv,fA,D hQ]))=ae;have hy:∀q,(dT h M ae).get q=if q=M then some ae else h.get q:=λq=>dF t3 ae q;have e1:∀q,q<7->(dT h M ae).get q=h.get q:=λq O=>(hy q).trans (ao B);have ih:=(e1 1 B).trans E.b1;have fB:=(e1 3 B).trans E.b3;have ii:=(e1 4 B).trans E.b4;have jj:=(e1 5 B).trans bk;have eL:∀C q,(dT (dT h M ae) 3 C).get q=if q=3 then some C else if q=M then some ae else h.get q:=λC q=>(dF fB C q).trans (by rw[hy]);have de:∀C I q,(dT (dT (dT h M ae) 3 C) 4 I).get q=if q=4 then some I else if q=3 then some C else if q=M then some ae else h.get q:=λC I q=>(dF ((eL C 4).trans ((ao B).trans ((ao B).trans E.b4))) I q).trans (by rw[eL]);have lT:(3=M)=False:=dp;have lW:(4=M)=False:=dp;have sv:∀C,em (dT h M ae) (dT (dT h M ae) 3 C) 5=true:=λC=>mE fB B C;have kn:∀C I,TI.fz (dT (dT (dT h M ae) 3 C) 4 I) cc=some (sl (gF l1)):=λC I=>(bN.mono (h':=dT (dT (dT h M ae) 3 C) 4 I) λq x=>by
   have:=E.bc q x;rw[de,ao B,ao B,ao B]).fz J
  have kp:∀C I,TI.fz (dT (dT (dT h M ae) 3 C) 4 I) cf=some (sl (gF l2)):=λC I=>(fY.mono (h':=dT (dT (dT h M ae) 3 C) 4 I) λq x=>by
   have:=E.bf q x;rw[de,ao B,ao B,ao B]).fz J
  have kB:∀C I,TI.fz (dT (dT (dT h M ae) 3 C) 4 I) ct=some (sl ((s.dC.set ch.dQ.toNat u).map dX.t)):=λC I=>by
   refine(E.gt.setAt t1 t3 ch.dQ.toNat (.agg [D hP,fv,fA,D hQ]) (h':=dT (dT (dT h M ae) 3 C) 4 I) (by rw[de,ao B,ao B,aq rfl,hM])).IS (V:=λ_=>True) (d:=4) B (Bi (by simp[E.l]) λj x w eS hw=>?_);rw[aQ]at hw;obtain⟨nu,eb,rfl⟩:=Option.map_eq_some_iff.1 hw;by_cases e5:j=ch.dQ.toNat
   ·subst e5;rw[cQ (by rw[E.l];exact aX)]at eS;rw[cQ aX]at eb;simp at eS eb;subst eS;subst eb;exact .inr (.inr ⟨_,_,rfl,nv.imp λ_ _ k=>k.mono λq O=>⟨trivial,by rw[de,ao B,ao B,ao (λx=>O.2.2.2 (by rw[x];exact t1))]⟩,rfl⟩)
   ·rw[cR (λx=>e5 x.symm)]at eS eb;have lS:=E.m j (List.getElem?_eq_some_iff.1 eb).1;have lX:=E.n7;refine(E.o j x nu e5 eS eb).mono λq O=>⟨trivial,?_⟩;rw[de,ao B,ao B,ao (λx=>(E.bt M t1).2.2 j (List.getElem?_eq_some_iff.1 eb).1 (by rw[<-x];exact O))]
  simp[U,aN,W,al,an,bu,bn,bs,E.b1,E.b2,ee e9,m0,t2,t3,t4,k3,k4,eM,k6,dN,bk,hM,ih,fB,ii,jj,eL,de,bN.fg,bN.cells,fY.fg,fY.cells,E.gt.fg,E.gt.cells,lT,lW,E.b4,sv,kn,kp,kB,E.ok.hp];have gn:S=(ei c.ew s.fk ch.dQ y.kind y.obj ch.Et).1:=by rw[lc]
  have e6:=xH c.ew s.fk ch.dQ y.kind y.obj ch.Et;rw[<-gn]at e6;refine⟨⟨S,l1,l2,s.dC.set ch.dQ.toNat u⟩,⟨y.dQ,y.kind,y.obj,bC,y.iQ,y.mo,y.uA⟩,true,by simp[iw.t,iw.cs,bO],lv,λ_=>⟨⟨⟨by rw[e6.1];omega,by rw[e6.2.1];omega,by rw[e6.2.2];omega,by rw[c6];omega,by rw[lB];omega,dp⟩,?_,?_,λw hw=>?_⟩,λN hB w hw=>?_⟩⟩
  ·rw[gn];refine CX P.r _ ⟨e9,?_⟩ _ _ _;have:=a7.f.th;omega
  ·rw[gn];exact xI P.a _ _ _ _ _
  ·rcases bZ hw with q|rfl
   ·exact P.t w q
   ·exact hf
  ·rcases bZ hw with q|rfl
   ·have:=hB w q;omega
   ·have:=hB t (ax di);omega
end
end
def Sp9(f:H)(a:fa)(b c:List Int):Prop:=∃g d e,m9 f 2 7 g [(sl (a.dW.map dP.t),none),(D a.tx,none),(sl (a.done.map T.bool),none),(sl (a.dC.map dE.t),none),(d,some (1,gF b)),(e,some (1,gF c)),(dw,none)]
structure Tt9(c:jG)(S:fa)(C F:List Int)(cc cf:T)(n1 k:Nat)(h:H)(ver:Nat)(ct:T)(es:List T)(ts:List dX)(lo hi:Nat->Nat):Prop where
 ok:gH 0 h
 n:3<=n1/\n1<=h.size
 b0:h.get 0=some (Z 7 0 [c.t])
 b1:h.get 1=some mD
 b2:h.get 2=some (Z 7 ver [.agg [sl (S.dW.map dP.t),D S.tx,sl (S.done.map T.bool),sl (S.dC.map dE.t),cc,cf,ct]])
 gc:Gr h cc 1 (gF C)
 gf:Gr h cf 1 (gF F)
 bx:∀q,dM cc=some q\/dM cf=some q->3<=q/\q<n1
 th:Sh n1 h ct es ts lo hi
 l:ts.length=k
 t:∀t∈ts,Uv 1000000 t/\t.dI=0
def aeA(b:T):Prop:=∃a:iw,b=a.t/\StI a/\Wb 0 a
def DS:mW prog cx 77 (λk:jG=>[k.t]) (λk=>∀x∈k.dC,x.iY.length<=10000001) (λ_=>aeA):=by
 refine iS [(75,v7.ji),(74,sR)] (iP 4504699140047487 [] func77) (λ_=>1005) (λa b h=>by simp at h;exact jG.inj h) ?_;rintro k et r an;simp at an;obtain⟨_,⟨b,rfl,bz⟩,b9⟩:=v7.use k et;cases b with
 |false=>
  simp[f77,an,b9];exact⟨⟨⟨[],0,[],[]⟩,[],[],[]⟩,rfl,⟨J,λce hl=>by simp at hl,λce hl=>by simp at hl,λN ht=>by simp at ht⟩,λN ht=>by simp at ht⟩
 |true=>
  have ae:=bz rfl;have a8:=qF ae.1;obtain⟨e2,e3,e4,e5,e6,cL⟩:=a8;have eX:k.dC.length<=4:=by rw[ae.2.1];exact cL
  simp[f77,an,b9,Ht,show k.ew.dW.length<=1000000 by omega,show k.ew.dU.length<=1000000 by omega,show k.ew.dC.length<=1000000 by omega];have bu:(kK k.ew).dW.length=k.ew.dW.length/\(kK k.ew).done.length=k.ew.dU.length/\(kK k.ew).dC.length=k.ew.dC.length:=by simp[kK]
  have ef:HE 4 (kK k.ew):=(uH 4 k.ew);have eh:(kK k.ew).El:=rF k.ew;generalize kK k.ew=o at*
  refine fc k.ew.cells.length B (λs r h=>∃K,Sp9 h o K []/\K.length=s/\Lb 2 h 0 (Z 7 0 [k.t])/\Lb 2 h 1 mD/\dy r 1 (.ptr 0 0 0 0)/\dy r 2 (.ptr 1 0 0 0)/\dy r 3 (.ptr 2 0 0 0)/\dy r 4 (D s)) ?_ ?_ B ?_
  ·rintro s r h S ap ⟨K,⟨ver,L,M,u⟩,eb,C,Q,v,z,A,I⟩;have G:=u.get;simp at G;have⟨eO,h',X,y⟩:=(u.gr 4 rfl).mQ (cx:=cx) (f:=T.int .i64) u.ok oh rfl yJ rfl J (λ_=>rfl) k.ew.cells[s].jA dp;have⟨av,bT,b6⟩:=u.app 4 rfl y;have⟨U,aA⟩:=b6 _ rfl;simp only[aP,bY,cT,cE]at av U aA;simp[v,z,A,I,S,C.get,G,X,av,bT,dN,y.1.fg,y.1.cells,ap];exact⟨K++[k.ew.cells[s].jA],⟨_,_,_,aA⟩,dp,C.step U,Q.step U⟩
  ·rintro r h ⟨K,eH,eb,C,Q,v,z,A,I⟩;simp[v,z,A,I,C.get];refine fc k.ew.dU.length B (λs r h=>∃F,Sp9 h o K F/\F.length=s/\Lb 2 h 0 (Z 7 0 [k.t])/\Lb 2 h 1 mD/\dy r 1 (.ptr 0 0 0 0)/\dy r 2 (.ptr 1 0 0 0)/\dy r 3 (.ptr 2 0 0 0)/\dy r 5 (D s)) ?_ ?_ B ?_
   ·rintro s r h S ap ⟨F,⟨ver,L,M,u⟩,bs,C,Q,v,z,A,I⟩;have G:=u.get;simp at G;have⟨eO,h',X,y⟩:=(u.gr 5 rfl).mQ (cx:=cx) (f:=T.int .i64) u.ok oh rfl yJ rfl J (λ_=>rfl) 0 dp;have⟨av,bT,b6⟩:=u.app 5 rfl y;have⟨U,aA⟩:=b6 _ rfl;simp only[aP,bY,cT,cE]at av U aA;simp[v,z,A,I,S,C.get,G,X,av,bT,dN,y.1.fg,y.1.cells,ap];exact⟨F++[0],⟨_,_,_,aA⟩,dp,C.step U,Q.step U⟩
   ·rintro r h ⟨F,⟨ver,L,M,u⟩,bs,C,Q,v,z,A,I⟩;simp[v,z,A,I,C.get];have G:=u.get;simp at G;have aN:=u.gr 4 rfl;have aX:=u.gr 5 rfl;have c7:∀q,dM L=some q\/dM M=some q->3<=q/\q<h.size:=λq P=>by
     have bC:Fp h 2 q:=by
      rcases P with x|x
      ·exact u.A9 (f:=(L,some (1,gF K))) J x
      ·exact u.A9 (f:=(M,some (1,gF F))) J x
     refine⟨?_,u.fp q bC⟩;have c1:q≠0:=λx=>C.nf (by rw[<-x];exact bC);have c4:q≠1:=λx=>Q.nf (by rw[<-x];exact bC);have e7:q≠2:=λx=>by
      subst x;rcases P with x|x
      ·have⟨_,_,_,_,R,_⟩:=aN.box x;rw[G]at R;simp at R
      ·have⟨_,_,_,_,R,_⟩:=aX.box x;rw[G]at R;simp at R
     omega
    have eW:=H.ej G;have dv:=aN.fg;have c9:=aN.cells;have ea:=aX.fg;have dd:=aX.cells;refine fc k.dC.length B (λs r h'=>∃ver W bk aE bN bH,Tt9 k o K F L M h.size s h' ver W bk aE bN bH/\dy r 1 (.ptr 0 0 0 0)/\dy r 2 (.ptr 1 0 0 0)/\dy r 3 (.ptr 2 0 0 0)/\dy r 6 (D s)) ?_ ?_ (by have:=ae.2.1;have:=cL;omega) ?_
    ·rintro s r h' S ap ⟨ver,W,bk,aE,bN,bH,i,v,z,A,I⟩;have⟨m,eu,e0⟩:∃m:Nat,k.dC[s].iF=m/\m<=32:=⟨k.dC[s].iF.toNat,by have:=ae.2.2 _ (aD S);have:=this.1;omega,by have:=ae.2.2 _ (aD S);have:=this.2.1;omega⟩;have de:m*8<=70368744177664:=B;have di:m*24<=70368744177664:=B;have ec:=i.n;have c1:∀q,q<3->(q=h'.size)=False:=λq P=>by simp;omega
     have c4:∀q,q<3->(q=h'.size+1)=False:=λq P=>by simp;omega
     have cp:=i.ok;have eC:=cp.low;have XS:gH 0 ((h'.cons ⟨1,0,0,true,false,List.replicate m (D 0)⟩).cons ⟨1,0,0,true,false,List.replicate m dw⟩):=(cp.cons _).cons _;have bl:∀q,((h'.cons ⟨1,0,0,true,false,List.replicate m (D 0)⟩).cons ⟨1,0,0,true,false,List.replicate m dw⟩).get q=if q=h'.size+1 then some ⟨1,0,0,true,false,List.replicate m dw⟩else if q=h'.size then some ⟨1,0,0,true,false,List.replicate m (D 0)⟩else h'.get q:=λq=>by rw[dO,dO];rfl
     have c6:((h'.cons ⟨1,0,0,true,false,List.replicate m (D 0)⟩).cons ⟨1,0,0,true,false,List.replicate m dw⟩).size=h'.size+1+1:=rfl;have bS:Nb h' ((h'.cons ⟨1,0,0,true,false,List.replicate m (D 0)⟩).cons ⟨1,0,0,true,false,List.replicate m dw⟩):=⟨⟨XS.hp,XS.low,B⟩,λq P=>(bl q).trans ((ao B).trans (ao B))⟩;have ds:=i.th.g.mono (h':=(h'.cons ⟨1,0,0,true,false,List.replicate m (D 0)⟩).cons ⟨1,0,0,true,false,List.replicate m dw⟩) λq x=>bS.get q (by have⟨_,_,_,_,R,_⟩:=i.th.g.box x;exact H.ej R);have⟨al,O,X,y⟩:=ds.Fv (cx:=cx) XS OS rfl Kf rfl J (x:= .agg [D 0,.arr h'.size 0 0 m false,.arr (h'.size+1) 0 0 m false,D 0]) rfl (by have:=i.th.l;have:=i.l;have:=ae.2.1;simp;omega);simp only[c6]at X;have eP:=y.2.2.2.sz;rw[c6]at eP;have bi:∀q,dM W=some q->h.size<=q:=λq x=>(i.th.c q x).1;have gN:∀q,q<h'.size->dM W≠some q->O.get q=h'.get q:=λq P ey=>(y.2.1 q B ey).trans (bS.get q P);have bn:∀q,q<3->O.get q=h'.get q:=λq P=>gN q B λx=>by have:=bi q x;omega
     have p2:=(bn 2 B).trans i.b2;simp[v,z,A,I,S,i.b0,i.b2,eu,de,di,c1,c4,eC,X,p2,y.1.fg,y.1.cells,dN,ap];have eF:gH 0 O:=⟨y.2.2.2.hp,y.2.2.2.low,aw _⟩;have E:∀q,(dT O 2 (Z 7 (ver+1) [.agg [sl (o.dW.map dP.t),D o.tx,sl (o.done.map T.bool),sl (o.dC.map dE.t),L,M,al]])).get q=if q=2 then some (Z 7 (ver+1) [.agg [sl (o.dW.map dP.t),D o.tx,sl (o.done.map T.bool),sl (o.dC.map dE.t),L,M,al]])else O.get q:=λq=>dF p2 _ q;have eD:=eF.put 2 (Z 7 (ver+1) [.agg [sl (o.dW.map dP.t),D o.tx,sl (o.done.map T.bool),sl (o.dC.map dE.t),L,M,al]]);have e8:(dT O 2 (Z 7 (ver+1) [.agg [sl (o.dW.map dP.t),D o.tx,sl (o.done.map T.bool),sl (o.dC.map dE.t),L,M,al]])).size=O.size:=fI ..;generalize dT O 2 _=bs at*
     have e1:List.replicate m (T.int .i64 0)=gF (List.replicate m 0):=by simp[gF]
     have eL:AJ h'.size (h'.size+1+1) ((h'.cons ⟨1,0,0,true,false,List.replicate m (D 0)⟩).cons ⟨1,0,0,true,false,List.replicate m dw⟩) (.arr h'.size 0 0 m false) (.arr (h'.size+1) 0 0 m false) (List.replicate m dw) ⟨0,List.replicate m 0,List.replicate m [],0⟩:=by
      refine⟨.inr ⟨h'.size,0,0,true,_,J,(bl _).trans ((ao B).trans (aq rfl)),J⟩,.inr ⟨h'.size+1,0,0,true,_,J,(bl _).trans (aq rfl),J⟩,Bi J λj a b an bz=>?_,λq x=>?_,λq x=>?_⟩
      ·have eo:=bK (ax an);have er:=bK (ax bz);subst eo;subst er;exact⟨.inr (Gr.nil _ _),λq x=>by simp at x⟩
      ·simp at x;subst x;exact⟨au _,B,J⟩
      ·simp at x;subst x;exact⟨B,B⟩
     have eI:=(i.th.app i.n.2 bS eL y).mono (h':=bs) B λq v _=>(E q).trans (ao B);refine⟨ver+1,al,_,_,_,_,⟨eD,⟨i.n.1,B⟩,(E 0).trans ((ao B).trans ((bn 0 B).trans i.b0)),(E 1).trans ((ao B).trans ((bn 1 B).trans i.b1)),(E 2).trans (aq rfl),i.gc.mono λq x=>?_,i.gf.mono λq x=>?_,i.bx,eI,by simp[i.l],λN ht=>?_⟩⟩
     ·have:=i.bx q (.inl x);exact(E q).trans ((ao B).trans (gN q B λp=>by have:=bi q p;omega))
     ·have:=i.bx q (.inr x);exact(E q).trans ((ao B).trans (gN q B λp=>by have:=bi q p;omega))
     ·rcases List.mem_append.1 ht with q|q
      ·exact i.t N q
      ·simp at q;subst q;exact⟨⟨dp,dp,λce hl=>by have:=bK hl;subst this;exact Tn.nil _⟩,rfl⟩
    ·rintro r h' ⟨ver,W,bk,aE,bN,bH,i,v,z,A,I⟩;have bB:=i.b1;unfold mD at bB;have E:∀p q,(dT h' 1 p).get q=if q=1 then some p else h'.get q:=λp q=>dF bB p q;have ec:=i.n;have dk:∀p,TI.fz (dT h' 1 p) L=some (sl (gF K)):=λp=>(i.gc.mono (h':=dT h' 1 p) λq x=>by have:=i.bx q (.inl x);rw[E,ao B]).fz J;have dm:∀p,TI.fz (dT h' 1 p) M=some (sl (gF F)):=λp=>(i.gf.mono (h':=dT h' 1 p) λq x=>by have:=i.bx q (.inr x);rw[E,ao B]).fz J;have dn:∀p,TI.fz (dT h' 1 p) W=some (sl (aE.map dX.t)):=λp=>by
      have b8:=i.th.mono (h':=dT h' 1 p) (by rw[fI];exact au _) λq v _=>by rw[E,ao B]
      refine b8.g.IS (V:=λ_=>True) (d:=4) B (Bi (by simp[b8.l]) λj x w eB a8=>?_);rw[aQ]at a8;obtain⟨eN,eA,rfl⟩:=Option.map_eq_some_iff.1 a8;obtain⟨eR,eS,eV,rfl,eM⟩:=b8.e j x eN eB eA;exact .inr (.inr ⟨_,_,rfl,eM.fz _ λ_ _ _=>trivial,rfl⟩)
     simp[v,z,A,I,i.b0,i.b2,bB,dN,dv,c9,ea,dd,i.th.g.fg,i.th.g.cells,E,dk,dm,dn,i.ok.hp];have hl:=i.l;refine⟨⟨o,K,F,aE⟩,rfl,⟨⟨by rw[bu.1];omega,by rw[bu.2.1];omega,by rw[bu.2.2];omega,dq,dq,dq⟩,ef,eh,λN ht=>(i.t N ht).1⟩,λN ht=>by have:=(i.t N ht).2;omega⟩
    ·refine⟨ver,dw,[],[],λ_=>0,λ_=>0,⟨u.ok,⟨B,au _⟩,C.get,Q.get,G,aN,aX,c7,⟨Gr.nil _ _,rfl,λs eU N x=>by simp at x,λs x=>by simp at x,λs j x p=>by simp at p,λk x=>by simp at x⟩,rfl,λN ht=>by simp at ht⟩,by simp[v,z,A]⟩
   ·exact⟨[],eH,rfl,C,Q,by simp[v,z,A]⟩
  ·generalize a7:H.cons _ _=ca;have eE:gH 0 ca:=by rw[<-a7];exact⟨J,J,J⟩
   have b7:=m9.start (h:=ca) (w:=2) (szw:=7) (ver:=1) (F:=[(sl (o.dW.map dP.t),none),(D o.tx,none),(sl (o.done.map T.bool),none),(sl (o.dC.map dE.t),none),(dw,some (1,[])),(dw,some (1,[])),(dw,none)]) eE (by rw[<-a7];simp) (λf cb=>by
    simp only[co,cV,or_false]at cb;rcases cb with rfl|rfl|rfl|rfl|rfl|rfl|rfl
    iterate 4 exact .inl ⟨rfl,J⟩
    iterate 2 exact .inr ⟨rfl,1,rfl,dt⟩
    exact .inl ⟨rfl,rfl⟩)
   exact⟨[],⟨1,_,_,b7.1⟩,rfl,⟨by rw[<-a7];simp,λx=>absurd (b7.2 0 x) B⟩,⟨by rw[<-a7];simp[mD],λx=>absurd (b7.2 1 x) B⟩,J⟩
section
attribute [-simp] size_cons
structure IFr where
 (c:jG) (s:iw) (L:List iW)
def TX(a:IFr)(b:List T)(d:H):Prop:=b=[a.c.t,a.s.t,dw,sl (a.L.map iW.t)]/\gH 0 d/\(∀e∈a.c.dC,e.iY.length<=10000001)/\StI a.s/\Wb 0 a.s/\a.L.length<=80
def Np(i:IFr)(h:List T)(c:H)(f:T)(d:H):Prop:=∃(a:List dY) (g:iw) (b:T),f= .tuple [b,g.t]/\Gr d b 7 (a.map dY.t)/\(∀e,dM b=some e->c.size<=e)/\Nb c d/\IY a/\a.length<=80
structure Fr9(c:jG)(h0:H)(n:Nat)(h:H)(s:iw)(l:List dY)(v:T)(ver:Nat):Prop where
 nb:Nb h0 h
 z:h0.size+3<=h.size
 b0:h.get h0.size=some (Z 7 0 [c.t])
 b1:h.get (h0.size+1)=some (Z 7 ver [s.t])
 b2:h.get (h0.size+1+1)=some mD
 g:Gr h v 7 (l.map dY.t)
 bx:∀q,dM v=some q->h0.size+3<=q
 st:StI s
 ev:Wb n s
 es:IY l
 l:l.length<=n
def Fr9.ok{c:jG}{d a:H}{g:Nat}{h:iw}{f:List dY}{j:T}{k:Nat}(b:Fr9 c d g a h f j k):gH 0 a:=⟨b.nb.ok.hp,b.nb.ok.low,aw _⟩
def NY:(jr IFr TX Np).Ok prog cx 76:=by
 refine jn (tb:=⟨pt [(129,Ge.ji)],ht []⟩) iB gW (iP 68723687231 [(4,[(6,11),(6,12)])] func76) (λ_ _=>1005) (λi V d b7=>by obtain⟨rfl,_⟩:=b7;simp[f76]) ?_;rintro⟨u,j,K⟩ _ c ⟨rfl,aA,al,ap,ae,bH⟩ q N;simp only at al ap ae bH;simp at N;obtain⟨bz,bB,m,n⟩:=N;have S:=aA.hr;simp[f76,bz,bB,m,n];have dk:=aA.low;generalize r:((H.cons _ _).cons _).cons _=C;have dm:gH 0 C:=by rw[<-r];exact((S.cons _).cons _).cons _
 have dv:C.size=c.size+1+1+1:=by rw[<-r];rfl
 have b9:Nb c C:=by rw[<-r];exact⟨((((Nb.refl S).cons _).cons _).cons _).ok,λu bN=>(((((Nb.refl S).cons _).cons _).cons _).get u bN).trans (gu c u)⟩
 have cL:C.get c.size=some (Z 7 0 [u.t]):=by rw[<-r];simp
 have c1:C.get (c.size+1)=some (Z 7 0 [j.t]):=by rw[<-r];simp
 have c4:C.get (c.size+1+1)=some mD:=by rw[<-r];simp[mD]
 clear r;refine yU K.length (λo q d=>∃j F G p,Fr9 u c o d j F G p/\dy q 4 (.ptr c.size 0 0 0)/\dy q 5 (.ptr (c.size+1) 0 0 0)/\dy q 9 (.ptr (c.size+1+1) 0 0 0)/\dy q 2 G/\dy q 3 (sl (K.map iW.t))/\dy q 10 (D o)) ?_ B (aw _) ?_
 ·rintro o q d di ⟨j,F,G,p,b,w,x,A,m,n,v⟩;have av:=b.g.len (cx:=cx) d UJ _ rfl;rw[aG]at av;simp[m,n,w,x,A,v,av];refine dV (λe=>?_) (λe=>?_)
  ·have b6:o<K.length:=by simp at e;exact e.1
   have b8:=b.z;have bn:Wb 999000 j:=λT ht=>by have:=b.ev T ht;omega
   obtain⟨_,⟨s,L,cb,rfl,bT,an⟩,W⟩:=Ge.use (u,j,K[o]) ⟨al,b.st,bn⟩;simp only at W an;have c6:(c.size=d.size)=False:=by simp<;>omega
   have c9:(c.size+1=d.size)=False:=by simp<;>omega
   have c7:(c.size=d.size+1)=False:=by simp<;>omega
   have dd:(c.size+1=d.size+1)=False:=by simp<;>omega
   simp[m,n,w,x,A,v,b.b0,b.b1,b6,W,b.ok.low,c6,c9,c7,dd];generalize M:dT _ (d.size+1) _=h;have R:gH 0 ((d.cons (Z 7 1 [s.t])).cons (Z 7 0 [.agg [D 0,D 0,D 0,D 0,D 0,dw,dw]])):=(b.ok.cons _).cons _;have Q:gH 0 h:=by rw[<-M];exact R.put _ _
   have de:h.size=d.size+1+1:=by rw[<-M,fI];rfl
   have O:∀a,h.get a=if a=d.size+1 then some (Z 7 1 [L.t])else if a=d.size then some (Z 7 1 [s.t])else d.get a:=λa=>by
    rw[<-M,mn R.hp (by show _<d.size+1+1;omega)];split
    ·rfl
    ·rw[dO,ao (by assumption),dO]
   clear M R;have Go:∀a,a<d.size->h.get a=d.get a:=λa e=>(O a).trans ((ao B).trans (ao B));have a0:=(Go c.size B).trans b.b0;have a1:=(Go (c.size+1) B).trans b.b1;have a2:=(Go (c.size+1+1) B).trans b.b2;have aN:=(O d.size).trans ((ao B).trans (aq rfl));have aE:=(O (d.size+1)).trans (aq rfl);have gA:=b.g.mono (h':=h) λa f=>by have⟨_,_,_,_,bs,_⟩:=b.g.box f;exact Go a (H.ej bs)
   cases cb with
   |false=>
    simp[m,n,w,x,A,v,nG];rw[<-jv,jD B B];exact⟨o+1,B,B,j,F,G,⟨p,⟨⟨⟨Q.hp,Q.low,B⟩,λa e=>(Go a B).trans (b.nb.get a e)⟩,B,a0,a1,a2,gA,b.bx,b.st,λT ht=>by have:=b.ev T ht;omega,b.es,by have:=b.l;omega⟩⟩,rfl,J⟩
   |true=>
    have⟨ce,bl⟩:=an rfl;have ca:gH 0 (dT h (c.size+1) (Z 7 (p+1) [s.t])):=Q.put _ _;have k:∀a,(dT h (c.size+1) (Z 7 (p+1) [s.t])).get a=if a=c.size+1 then some (Z 7 (p+1) [s.t])else h.get a:=λa=>dF a1 _ a;have dn:(dT h (c.size+1) (Z 7 (p+1) [s.t])).size=d.size+1+1:=by rw[fI];exact de
    simp[m,n,w,x,A,v,aN,a1,dN];generalize dT h (c.size+1) _=X at*
    have aX:=(k c.size).trans ((ao B).trans a0);have a7:=(k (c.size+1)).trans (aq rfl);have a8:=(k (c.size+1+1)).trans ((ao B).trans a2);have bi:=(k (d.size+1)).trans ((ao B).trans aE);have bu:=gA.mono (h':=X) λa f=>(k a).trans (ao (by have:=b.bx a f;omega));have⟨cp,bC,bk,E⟩:=bu.mQ (cx:=cx) ca OU rfl Ki rfl J (λ_=>rfl) L (by have:=b.l;simp;omega);simp[m,n,w,x,A,v,bi,bk,nG];rw[<-jv,jD B B];have ds:=E.2.2.2.sz;have I:∀a,a<c.size+3->bC.get a=X.get a:=λa e=>E.2.1 a B λf=>by have:=b.bx a f;omega
    exact⟨o+1,B,B,s,F++[L],cp,⟨p+1,⟨⟨⟨E.2.2.2.hp,E.2.2.2.low,B⟩,λa e=>(I a B).trans ((k a).trans ((ao B).trans ((Go a B).trans (b.nb.get a e))))⟩,B,(I c.size B).trans aX,(I (c.size+1) B).trans a7,(I (c.size+1+1) B).trans a8,E.1,λa f=>by
     rcases E.2.2.1 a f with y|y
     ·exact b.bx a y
     ·omega,ce,bl o b.ev,λV N=>by
     rcases List.mem_append.1 N with y|y
     ·exact b.es V y
     ·simp at y;subst y;exact bT,by have:=b.l;simp;omega⟩⟩,rfl,J⟩
  ·have P:=b.b2;unfold mD at P;have b8:=b.z;have k:∀y a,(dT d (c.size+1+1) y).get a=if a=c.size+1+1 then some y else d.get a:=λy a=>dF P y a;simp[m,n,w,x,A,v,b.b1,P,dN,k];have U:∀a,a≠c.size+1+1->(lM c (dT d (c.size+1+1) (Z 7 1 [j.t]))).get a=d.get a:=λa e=>by rw[fO,k,ao e]
   exact⟨F,j,G,rfl,b.g.mono λa f=>U a (by have:=b.bx a f;omega),λa f=>by have:=b.bx a f;omega,⟨⟨((b.ok.put _ _).out c).hp,((b.ok.put _ _).out c).low,by rw[vZ,fI];exact b.nb.ok.sz⟩,λa e=>(U a B).trans (b.nb.get a e)⟩,b.es,by have:=b.l;omega⟩
 ·exact⟨j,[],_,_,⟨b9,B,cL,c1,c4,Gr.nil _ _,λa f=>by simp at f,ap,ae,λL bS=>by simp at bS,au _⟩,by simp[m,n]⟩
