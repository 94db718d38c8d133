/- W07d -/
import Derived.Test.YtalknpnbaceflaaGreatDoorA18
import Derived.Test.YtalknpnbaceflaaGreatDoorA21
set_option linter.all false
set_option maxRecDepth 100000
set_option maxHeartbeats 0
namespace Go.Proofs.YtalknpnbaceflaaGreatDoor
noncomputable section
open Go Go.TI Tryz
attribute [-simp] List.map_take List.map_drop List.map_append ij gG fK Bool.not_or Bool.not_and
attribute [simp] ig gJ
section
attribute [-simp] size_cons
structure Yk where
 (i:iE) (s:fV) (a b:T) (es:List T) (lo hi N:Nat)
structure TOk(N r:Nat)(s:fV):Prop where
 rl:s.jN.length=r
 tl:s.lr.length=r
 tn:∀l∈s.lr,Tn N l
def SP(c:Yk)(e:List T)(d:H):Prop:=e=[c.i.t,El c.s c.a c.b]/\DV c.lo c.hi d c.a c.b c.es c.s/\c.hi<=d.size/\iQ 0 d/\1<=c.i.op/\c.i.op<=5/\TOk c.N c.s.jN.length c.s/\c.s.jN.length<=1000/\c.N<=1000000
def OM(a:Yk)(k:List T)(e:H)(j:T)(c:H):Prop:=∃d f g i h,j= .tuple [El d f g,.ez h]/\DV a.lo c.size c f g i d/\(∀b,b<e.size->(b<a.lo\/a.hi<=b)->c.get b=e.get b)/\iQ e.size c/\(h=true->TOk a.N a.s.jN.length d/\d.ej=a.s.ej)
def DV.mono{g f lo' hi':Nat}{k h':H}{h i:T}{j:List T}{l:fV}(c:DV g f k h i j l)(hl:lo'<=g)(n:f<=hi')(e:∀a,g<=a->a<f->h'.get a=k.get a):DV lo' hi' h' h i j l:=
 ⟨c.ga.mono λa b=>e a (c.ba a b).1 (c.ba a b).2.1,c.gb.mono λa b=>e a (c.bb a b).1 (c.bb a b).2,c.el.imp λm o d=>⟨d.1.mono λa b=>e a (d.2 a b).1 (d.2 a b).2.1,λa b=>⟨by have:=(d.2 a b).1;omega,by have:=(d.2 a b).2.1;omega,(d.2 a b).2.2⟩⟩,λa b=>⟨by have:=(c.ba a b).1;omega,by have:=(c.ba a b).2.1;omega,(c.ba a b).2.2⟩,λa b=>⟨by have:=(c.bb a b).1;omega,by have:=(c.bb a b).2;omega⟩⟩
def DV.same{h g:Nat}{f:H}{c d:T}{e:List T}{b s':fV}(a:DV h g f c d e b)(i:s'.jN=b.jN)(j:s'.lr=b.lr):DV h g f c d e s':=⟨by rw[i];exact a.ga,a.gb,by rw[j];exact a.el,a.ba,a.bb⟩
def DV.zero(e d:Nat)(c:H):DV e d c dV dV [] ⟨0,[],[],0⟩:=⟨Gr.nil _ _,Gr.nil _ _,.nil,λb a=>by simp at a,λb a=>by simp at a⟩
def TA:(km Yk SP OM).Ok prog cx 212:=by
 refine kh (tb:=⟨pt [(115,qd),(238,AN.kc),(237,KK.kc),(239,H5.kc)],ht [(95,km IUn SO MR)]⟩) jv jl (jF 9904163146420522906957187071 [(20,[(2,4),(2,6),(2,7),(2,8)]),(10,[(2,4),(2,6),(2,7),(2,8),(2,10),(2,12),(2,13),(2,14)]),(22,[(1,11),(3,11),(5,11),(7,11),(5,13),(7,13)])] func212) (λ_ _=>100) (λi av g fi=>by obtain⟨rfl,_⟩:=fi;simp[f212]) ?_;rintro⟨i,j,av,aA,ab,ec,fe,N⟩ _ g ⟨rfl,h,fb,c6,fl,fo,A,hr,e7⟩ m dk;simp only at h fb fl fo A hr e7;simp[El]at dk;obtain⟨e5,e6⟩:=dk;simp[f212,e5,e6,xL];generalize ae:(((TI.hr g).cons _).cons _).cons _=r;have L:iQ 0 r:=by rw[<-ae];exact((c6.hr.cons _).cons _).cons _
 have gk:r.size=g.size+1+1+1:=by rw[<-ae];rfl
 have a7:Nb g r:=by rw[<-ae];exact⟨((((Nb.refl c6.hr).cons _).cons _).cons _).ok,λd f=>(((((Nb.refl c6.hr).cons _).cons _).cons _).get d f).trans (iU g d)⟩
 have U:r.get g.size=some (X 6 0 [i.t]):=by rw[<-ae];simp
 have W:r.get (g.size+1)=some (X 4 0 [.eZ [C j.pC,av,aA,C j.ej]]):=by rw[<-ae];simp
 have a8:r.get (g.size+1+1)=some (X 4 0 [.eZ [C 0,dV,dV,C 0]]):=by rw[<-ae];simp
 clear ae;have eb:=h.ga.len (cx:=cx) r V6 _ rfl;rw[aI]at eb;have e4:∀y,(fJ r (g.size+1+1) y).get (g.size+1+1)=some y:=λy=>(eG a8 y _).trans (au rfl);have gD:=E5 i;refine ik (jP i).length B (λk m h'=>r=h'/\Y m 2 (.fc g.size 0 0 0)/\Y m 3 (.fc (g.size+1) 0 0 0)/\Y m 4 (.fc (g.size+1+1) 0 0 0)/\Y m 6 (sl (iz (jP i)))/\Y m 7 (C k)/\∀K∈(jP i).take k,0<=K/\K<j.jN.length) ?_ ?_ B G
 ·rintro k m _ a6 e8 ⟨rfl,s,u,E,bH,bN,J⟩;have fs:(jP i).take (k+1)=(jP i).take k++[(jP i)[k]]:=aP a6;simp[u,bH,bN,a6,W,eb];generalize(jP i)[k]=K at*
  refine fN (λbA=>?_) (λbA=>?_)
  ·simp[E,a8,e4,fG];refine⟨⟨0,[],[],0⟩,_,_,_,false,rfl,DV.zero _ _ _,λd f _=>?_,⟨(L.put _ _).out g|>.hp,(L.put _ _).out g|>.low,dR⟩,G⟩;rw[iB,eG a8,Z B];exact a7.get d f
  ·simp at bA;simp[s,u,E,bH,bN,e8,fs];intro x cX;rcases cX with cX|rfl
   ·exact J x cX
   ·omega
 ·rintro m _ ⟨rfl,s,u,E,bH,bN,J⟩;rw[aL]at J;simp[s,bH,bN,U];have b7:qZ r 1 av (iz j.jN):= .inr (h.ga.mono λd f=>a7.get d (by have:=(h.ba d f).2.1;omega));have b8:qZ r 1 aA ab:= .inr (h.gb.mono λd f=>a7.get d (by have:=(h.bb d f).2;omega));have b6:∀K:Int,0<=K->K<j.jN.length->∃z e,j.lr[K.toNat]? =some z/\ab[K.toNat]? =some e/\qZ r 1 e (iz z)/\Tn N z:=λK r0 r1=>by
   have a6:K.toNat<j.lr.length:=by have:=A.tl;omega
   have⟨e,bW,l⟩:=h.el.get (aB a6);exact⟨_,e,aB a6,bW,l.1.mono λd f=>a7.get d (by have:=(l.2 d f).2.1;omega),A.tn _ (aG a6)⟩
  refine lV (λm I=>∃(v:Int) (eC:T) (w:T) (ap:List Int),J7 eC/\Nb r I/\qZ I 1 w (iz ap)/\Tn N ap/\ju i.a j.jN.length=true/\Y m 2 (.fc g.size 0 0 0)/\Y m 3 (.fc (g.size+1) 0 0 0)/\Y m 4 (.fc (g.size+1+1) 0 0 0)/\Y m 8 (C v)/\Y m 9 eC/\Y m 10 w) (λbA=>?_) (λbA=>?_) ?_
  ·simp[s,u,E,U,W,a8,fG,ou,L.hp,gk];refine⟨{j with pC:=i.a},av,aA,ab,true,rfl,(h.mono (ax _) dR λd _ f=>?_).same rfl rfl,λd f _=>?_,⟨(((L.put _ _).put _ _).out g).hp,(((L.put _ _).put _ _).out g).low,dR⟩,λ_=>⟨⟨rfl,A.tl,A.tn⟩,rfl⟩⟩
   all_goals (rw[iB,ou (by simpa using L.hp) dR,Z B,eG W,Z B];exact a7.get d B)
  ·have gz:¬i.op=5:=by simpa using bA
   have f:i.op=1\/i.op=2\/i.op=3\/i.op=4:=B;rcases f with e|e|e|e
   ·have O:=J i.a (by unfold jP;simp[e]);simp[s,u,E,U,e];exact⟨_,_,⟨_,rfl⟩,Nb.refl L,_,[],.inr (Gr.nil _ _),Tn.nil N,fQ.2 ⟨O.1,B⟩,rfl,rfl,rfl⟩
   ·have O:=J i.a (by unfold jP;simp[e]);have F:=J i.b (by unfold jP;simp[e]);have⟨p1,bg,bi⟩:=b7.idx (te:=IG) rfl rfl (i:=i.b.toNat) (x:= C j.jN[i.b.toNat]) (by simp[show i.b.toNat<j.jN.length by omega]) rfl;have⟨z,w,hl,bB,S,Q⟩:=b6 i.b F.1 F.2;have⟨p2,bn,bp⟩:=b8.idx (te:=pI) rfl rfl bB S.jc.2;simp[s,u,E,U,W,e,fU F.1,bg,bi,bn,bp];exact⟨_,_,⟨_,rfl⟩,Nb.refl L,_,z,S,Q,fQ.2 ⟨O.1,B⟩,rfl,rfl,rfl⟩
   ·have O:=J i.a (by unfold jP;simp[e]);have F:=J i.b (by unfold jP;simp[e]);have⟨p1,bg,bi⟩:=b7.idx (te:=IG) rfl rfl (i:=i.b.toNat) (x:= C j.jN[i.b.toNat]) (by simp[show i.b.toNat<j.jN.length by omega]) rfl;have⟨z,w,hl,bB,S,Q⟩:=b6 i.b F.1 F.2;have⟨p2,bn,bp⟩:=b8.idx (te:=pI) rfl rfl bB S.jc.2;obtain⟨_,⟨o,rfl⟩,cp⟩:=AN.use i.n trivial;obtain⟨_,⟨gi,fC,rfl⟩,bs⟩:=KK.use (o,j.jN[i.b.toNat]) trivial;simp only at bs;simp[s,u,E,U,W,e,fU F.1,bg,bi,bn,bp,cp,bs];exact⟨_,_,⟨_,rfl⟩,Nb.refl L,_,z,S,Q,fQ.2 ⟨O.1,B⟩,rfl,rfl,rfl⟩
   ·have O:=J i.a (by unfold jP;simp[e]);have F:=J i.b (by unfold jP;simp[e]);have cL:=J i.c (by unfold jP;simp[e]);have⟨p1,bg,bi⟩:=b7.idx (te:=IG) rfl rfl (i:=i.b.toNat) (x:= C j.jN[i.b.toNat]) (by simp[show i.b.toNat<j.jN.length by omega]) rfl;have⟨p3,eI,eK⟩:=b7.idx (te:=IG) rfl rfl (i:=i.c.toNat) (x:= C j.jN[i.c.toNat]) (by simp[show i.c.toNat<j.jN.length by omega]) rfl;have⟨z,w,hl,bB,S,Q⟩:=b6 i.b F.1 F.2;have⟨l2,gj,gB,fv,eh,eB⟩:=b6 i.c cL.1 cL.2;have⟨p2,bn,bp⟩:=b8.idx (te:=pI) rfl rfl bB S.jc.2;have⟨p4,eL,eM⟩:=b8.idx (te:=pI) rfl rfl fv eh.jc.2;obtain⟨_,⟨o,rfl⟩,cp⟩:=AN.use i.n trivial;obtain⟨_,⟨gi,fC,rfl⟩,bs⟩:=H5.use (o,j.jN[i.b.toNat],j.jN[i.c.toNat]) trivial;simp only at bs;simp[s,u,U,W,e,fU F.1,fU cL.1,bg,bi,bn,bp,eI,eK,eL,eM,cp,bs];refine jB KJ G ⟨z,l2,w,gj⟩ ⟨rfl,S,eh,by have:=Q.1;have:=eB.1;simp only;omega,L⟩ ?_;rintro K I ⟨gd,P,_⟩;simp[s,u,E];exact⟨_,_,⟨_,rfl⟩,P,_,_,gd,Q.union eB,fQ.2 ⟨O.1,B⟩,rfl,rfl,rfl⟩
  ·rintro m I ⟨v,_,w,ap,⟨fE,rfl⟩,P,fY,Q,O,s,u,E,de,di,dd⟩;have ca:=(P.get _ B).trans U;have cb:=(P.get _ B).trans W;have c9:=(P.get _ B).trans a8;have ha:=P.ok.sz;have⟨cF,q,cd,⟨gM,gv,gA⟩,gX,bC,R⟩:=lA (cx:=cx) (⟨P.ok.hp,P.ok.low,ay _⟩:iQ 0 I) kO rfl nP kO rfl rfl G fY.j1 (by simp[T.cells]) (by have:=Q.1;simp;omega);have al:=fQ.1 O;have an:Nb g q:=⟨⟨R.hp,R.low,B⟩,λd f=>(bC d B).trans ((P.get d B).trans (a7.get d f))⟩;have gm:=(bC _ B).trans ca;have eF:=(bC _ B).trans cb;have eH:=(bC _ B).trans c9;have⟨p,gn,gP,gw,gS,bu,dm,aN,dn⟩:=(h.ga.mono (h':=q) λd f=>an.get d (by have:=(h.ba d f).2.1;omega)).Bd (te:=IG) rfl (i:=i.a.toNat) (by simpa using al.2);have⟨D,eN,gQ,gy,gV,aX,e9,bT,ds⟩:=(h.gb.mono (h':=q) λd f=>an.get d (by have:=(h.bb d f).2;omega)).Bd (te:=pI) rfl (i:=i.a.toNat) (by rw[h.el.length,A.tl];exact al.2);simp at cd;have bX:=(h.ba p bu).2.2;have ea:¬p=D:=λl=>bX (by rw[l];exact aX);have ed:=H.gh aN;have fB:=H.gh bT;have ef:=(h.ba p bu);have gI:=(h.bb D aX);have gE:=ef.1;have gF:=ef.2.1;have⟨e,bW,fX⟩:=h.el.get (aB (show i.a.toNat<j.lr.length by rw[A.tl];exact al.2));have ey:=E0 (x:= .arr I.size cF 0 ap.length false) fX.1.na;have fA:ab[i.a.toNat]'(by rw[h.el.length,A.tl];exact al.2)=e:=by rw[aB (by rw[h.el.length,A.tl];exact al.2)]at bW;simpa using bW
   rw[fA]at ds;have eA:∀x:Int,mS (C x) 0 [C v]=some (C v):=λx=>rfl;have c7:∀d,d<I.size->gU (I.cons (X 1 0 [])) q d=true:=λd f=>il ((bC d f).trans (by rw[fk,Z B]));have eo:=c7 g.size B;have er:=c7 (g.size+1) B;have et:=oU aN (show g.size≠p by omega);have eu:=oU aN (show g.size+1≠p by omega);have gg:=oU aN (show D≠p by omega);have eO:(g.size+1=p)=False:=dR;have eP:(g.size+1=D)=False:=dR;have eR:(g.size+1+1=p)=False:=dR;have eS:(g.size+1+1=D)=False:=dR;have eU:(D=p)=False:=dR;have l1:g.size+1<q.size:=B;have l2:g.size+1+1<q.size:=B;have dv:aA= .arr D eN 0 ab.length false:=by
    have⟨_,_,_,_,l,e⟩:=(h.gb.mono (h':=q) λd f=>an.get d (by have:=(h.bb d f).2;omega)).box aX;rw[bT]at l;simp at l;rw[e,l.1]
   have ff:i.a.toNat<ab.length:=by rw[h.el.length,A.tl];exact al.2
   simp at dn;simp[s,u,E,de,di,dd,ca,cb,cd,fU al.1,dm,dv,ff,aN,bT,eF,eH,dn,ds,eA,ey,eo,er,et,eu,ou,R.hp,ed,fB,eO,eP,eR,eS,eU,l1,l2,fG,qm];clear cd c7 eo er et eu gg ca cb c9 s u E de di dd ey eA dm e9;have eW:=h.ga.mono (h':=q) λd f=>an.get d (by have:=(h.ba d f).2.1;omega);have e0:=h.gb.mono (h':=q) λd f=>an.get d (by have:=(h.bb d f).2;omega);rw[<-dv];generalize bS:fJ (fJ (fJ (fJ q p _) D _) (g.size+1) _) (g.size+1+1) _=aE;have gZ:aE.size=q.size:=by rw[<-bS];simp
   have KN:iQ 0 aE:=by rw[<-bS];exact(((R.put _ _).put _ _).put _ _).put _ _
   have b9:∀d,aE.get d=if d=g.size+1+1 then _ else if d=g.size+1 then _ else if d=D then _ else if d=p then _ else q.get d:=λd=>by
    rw[<-bS,ou (by simpa using R.hp) dR,ou (by simpa using R.hp) dR,ou (by simpa using R.hp) dR,ou R.hp ed]
   clear bS;have Go:∀d,d≠g.size+1+1->d≠g.size+1->d≠D->d≠p->aE.get d=q.get d:=λd fL fP fS fW=>by rw[b9,Z fL,Z fP,Z fS,Z fW]
   have eV:=eW.setAt bu aN i.a.toNat (C v) (h':=aE) (by rw[b9,Z B,Z B,Z B,au rfl]);have eX:=e0.setAt aX bT i.a.toNat (.arr I.size cF 0 ap.length false) (h':=aE) (by rw[b9,Z B,Z B,au rfl]);have eD:∀d,fq av=some d->d=p:=λd f=>by rw[bu]at f;simpa using f.symm
   have eE:∀d,fq aA=some d->d=D:=λd f=>by rw[aX]at f;simpa using f.symm
   refine⟨⟨IntKind.i64.wrap (j.pC+1),j.jN.set i.a.toNat v,j.lr.set i.a.toNat ap,j.ej⟩,av,aA,ab.set i.a.toNat (.arr I.size cF 0 ap.length false),fE,rfl,⟨?_,?_,?_,λd f=>?_,λd f=>?_⟩,λd f hr=>?_,⟨(KN.out g).hp,(KN.out g).low,dR⟩,λ_=>⟨⟨G,by simp;exact A.tl,λz hl=>?_⟩,rfl⟩⟩
   ·have:=eV.out g;simpa[iz,aW]using this
   ·exact eX.out g
   ·refine h.el.set i.a.toNat ⟨.inr ?_,λd f=>?_⟩ λe z l=>⟨l.1.mono λd f=>?_,λd f=>?_⟩
    ·have:=Gr.new ((Go I.size B B B B).trans gA);simpa using this.out g
    ·simp at f;subst f;exact⟨by show ec<=_;omega,dR,λl=>by have:=eD _ l;omega,λl=>by have:=eE _ l;omega⟩
    ·have⟨bX,ea,c1,c4⟩:=l.2 d f;rw[iB,Go d B B (λl=>c4 (by rw[l];exact aX)) (λl=>c1 (by rw[l];exact bu))];exact an.get d B
    ·have⟨bX,ea,c1,c4⟩:=l.2 d f;exact⟨bX,dR,c1,c4⟩
   ·have:=h.ba d f;exact⟨this.1,dR,this.2.2⟩
   ·have:=h.bb d f;exact⟨this.1,dR⟩
   ·have hr:d<ec\/fe<=d:=hr;rw[iB,Go d B B B B];exact an.get d f
   ·rcases cH hl with l|rfl
    ·exact A.tn z l
    ·exact Q
structure ISe where
 (c:iC) (s:fV) (a b:T) (es:List T) (lo hi N:Nat)
structure ZE(N:Nat)(s:fV):Prop where
 rl:s.jN.length<=1000
 tl:s.lr.length<=1000
 tn:∀l∈s.lr,Tn N l
def SQ(d:ISe)(f:List T)(e:H):Prop:=f=[d.c.t,El d.s d.a d.b]/\DV d.lo d.hi e d.a d.b d.es d.s/\d.hi<=e.size/\iQ 0 e/\ZE d.N d.s/\d.N<=1000000/\d.c.j3.length<=10000001
def Fq(e:ISe)(h:List T)(c:H)(g:T)(d:H):Prop:=∃a f,g= .tuple [a.t,.ez f]/\ZE e.N a/\(a.ej=e.s.ej\/a.ej=0)/\d.size=c.size/\(∀b,b<c.size->d.get b=c.get b)/\iQ 0 d
def Lq(d:List Int):∀a∈iz d,cn a=a/\kT a=true/\∀b,a≠ .eZ b:=λa c=>by obtain⟨e,_,rfl⟩:=List.mem_map.1 c;simp
def DV.fz{o m:Nat}{h:H}{g l:T}{p:List T}{e:fV}(c:DV o m h g l p e)(k:Nat->Prop)(i:∀a,o<=a->a<m->k a):jw (FT h k 3) [C e.pC,g,l,C e.ej] e.cs:=
 .cons (iO ..) (.cons ((show qZ h 1 g (iz e.jN)from .inr c.ga).ft (d:=1) (Lq _) λa b=>i a (c.ba a b).1 (c.ba a b).2.1)
  (.cons (c.gb.ft (λa b=>i a (c.bb a b).1 (c.bb a b).2) (c.el.em (f:=λn=>sl (iz n)) λq n j=>j.1.ft (d:=0) (Lq _) λa b=>i a (j.2 a b).1 (j.2 a b).2.1)) (.cons (iO ..) .nil)))
def Zv{i:ISe}{args:List T}{b d:H}{e:List T}{s':fV}{ok:Bool}{Vq:Nat->Prop}(o:iQ 0 b)(a:Nb b d)(l:∀c,Vq c->b.size<=c)(k:jw (FT d Vq 3) e s'.cs)(q:ZE i.N s')(n:s'.ej=i.s.ej\/s'.ej=0):Bc b (.tuple [.eZ e,.ez ok]) d (Fq i args b):=by
 have⟨p,h,j⟩:=FT.tup B l k ok;refine⟨a.ok.hp,a.ok.sz,λc r m _=> .inl (a.get c m),p,h,s',ok,by rw[j];rfl,q,n,rfl,λg f=>(Ci a.ok.hp a.ok.sz f).trans (a.get g f),o.cut a.ok.hp a.ok.sz⟩
def Oy:fV:=⟨0,[],[],0⟩
def Gt{d:ISe}{c:List T}{a b:H}(f:iQ 0 a)(e:Nb a b):Bc a (.tuple [.eZ [C 0,dV,dV,C 0],.ez false]) b (Fq d c a):=
 Zv (s':=Oy) (Vq:=λ_=>False) f e (λ_ g=>g.elim) (.cons (iO ..) (.cons (j9 ..) (.cons (j9 ..) (.cons (iO ..) .nil)))) ⟨by simp[Oy],by simp[Oy],by simp[Oy]⟩ (.inr rfl)
structure SeS(c:iC)(s:fV)(N:Nat)(h h':H)(s':fV)(a' b':T)(es':List T)(ver:Nat):Prop where
 tx:DV (h.size+1+1+1) h'.size h' a' b' es' s'
 nb:Nb h h'
 hz:h.size+1+1+1<=h'.size
 g2:h'.get h.size=some (X 2 0 [c.t])
 g3:h'.get (h.size+1)=some (X 4 ver [.eZ [C s'.pC,a',b',C s'.ej]])
 g4:h'.get (h.size+1+1)=some (X 4 0 [.eZ [C 0,dV,dV,C 0]])
 to:TOk N s.jN.length s'
 ev:s'.ej=s.ej
def TC:(km ISe SQ Fq).Ok prog cx 169:=by
 refine ue (tb:=⟨pt [(210,zl)],ht [(211,km ICp SU MV),(212,km Yk SP OM)]⟩) jv jl (jF 1182933510117985879039 [] func169) (λD a=>10000005) (λi D a dn=>by obtain⟨rfl,_⟩:=dn;simp[f169]) ?_;rintro⟨c,f,D,b,bs,bW,bH,N⟩ _ a ⟨rfl,v,de,ok,tb,bB,y⟩ A bC;simp only at v de tb bB y;simp[El]at bC;obtain⟨c7,Q⟩:=bC;have bS:=λQ:H=>v.ga.len (cx:=cx) Q V6 _ rfl;have bT:=λQ:H=>v.gb.len (cx:=cx) Q Ki _ rfl;rw[aI]at bS;rw[v.el.length]at bT;simp[f169,c7,Q,bS,bT];generalize x:(((TI.hr a).cons _).cons _).cons _=u;have eh:iQ 0 u:=by rw[<-x];exact((ok.hr.cons _).cons _).cons _
 have eL:u.size=a.size+1+1+1:=by rw[<-x];rfl
 have a7:Nb a u:=by rw[<-x];exact⟨((((Nb.refl ok.hr).cons _).cons _).cons _).ok,λc y=>(((((Nb.refl ok.hr).cons _).cons _).cons _).get c y).trans (iU a c)⟩
 have cd:u.get a.size=some (X 2 0 [c.t]):=by rw[<-x];simp
 have bn:u.get (a.size+1)=some (X 4 0 [.eZ [C f.pC,D,b,C f.ej]]):=by rw[<-x];simp
 have an:u.get (a.size+1+1)=some (X 4 0 [.eZ [C 0,dV,dV,C 0]]):=by rw[<-x];simp
 clear x;have c6:∀d,(fJ u (a.size+1+1) d).get (a.size+1+1)=some d:=λd=>(eG an d _).trans (au rfl);refine fN (λT=>?_) (λT=>?_)
 ·simp[an,c6,fG];exact Gt ok (a7.put an B _)
 simp at T;have ef:∀c,bW<=c->c<bH->u.get c=a.get c:=λc _ y=>a7.get c B;have bg:=v.mono (ax _) (ax _) ef;simp[bn];refine jB KX G ⟨f,D,b,bs⟩ ⟨rfl,⟨.inr bg.ga,.inr bg.gb,bg.el.imp λ_ _ r=>r.1,λe m he a6=>?_⟩,eh,by have:=tb.rl;simp only;omega,by have:=tb.tl;simp only;omega,λl hl=>by have:=(tb.tn l hl).1;omega⟩ ?_
 ·rcases he with rfl|rfl|he
  ·have:=(v.ba m a6).2.1;omega
  ·have:=(v.bb m a6).2;omega
  ·have⟨l,r,k⟩:=v.el.left he;have:=(k m a6).2.1;omega
 rintro _ h ⟨a1,p,es1,rfl,ca,z⟩;simp only at ca;have eI:=z.ok.sz;have cp:=(z.get _ B).trans cd;have E:=(z.get _ B).trans bn;have cF:=(z.get _ B).trans an;have b7:Nb a (fJ h (a.size+1) (X 4 1 [.eZ [C f.pC,a1,p,C f.ej]])):=(a7.trans z).put E B _;have et:=ca.mono (lo':=a.size+1+1+1) (hi':=(fJ h (a.size+1) (X 4 1 [.eZ [C f.pC,a1,p,C f.ej]])).size) (h':=fJ h (a.size+1) (X 4 1 [.eZ [C f.pC,a1,p,C f.ej]])) B G λc y _=>by rw[eG E,Z B]
 have eH:iQ 0 h:=⟨z.ok.hp,z.ok.low,ay _⟩;have cL:(fJ h (a.size+1) (X 4 1 [.eZ [C f.pC,a1,p,C f.ej]])).get a.size=_:=(show(fJ h (a.size+1) (X 4 1 [.eZ [C f.pC,a1,p,C f.ej]])).get a.size=h.get a.size by rw[eG E,Z B]).trans cp;have cX:(fJ h (a.size+1) (X 4 1 [.eZ [C f.pC,a1,p,C f.ej]])).get (a.size+1)=_:=(eG E _ _).trans (au rfl);have bp:(fJ h (a.size+1) (X 4 1 [.eZ [C f.pC,a1,p,C f.ej]])).get (a.size+1+1)=_:=(show(fJ h (a.size+1) (X 4 1 [.eZ [C f.pC,a1,p,C f.ej]])).get (a.size+1+1)=h.get (a.size+1+1)by rw[eG E,Z B]).trans cF;simp[El,E,fG];generalize fJ h (a.size+1) _=eC at*
 refine ik (c.j3.length+1) B (λW A h'=>∃s O P ap al,SeS c f N a h' s O P ap al/\Y A 2 (.fc a.size 0 0 0)/\Y A 3 (.fc (a.size+1) 0 0 0)/\Y A 4 (.fc (a.size+1+1) 0 0 0)/\Y A 6 (C W)) ?_ ?_ B ?_
 ·rintro W A h' eD c9 ⟨s,O,P,ap,al,⟨bi,q,dv,F,I,g,o,aX⟩,K,L,w,R⟩;have J:∀d,(fJ h' (a.size+1+1) d).get (a.size+1+1)=some d:=λd=>(eG g d _).trans (au rfl);have b9:iQ 0 h':=⟨q.ok.hp,q.ok.low,ay _⟩;simp[K,L,R,F,I,show(W:Int)<=c.j3.length by omega];refine fN (λT=>?_) (λT=>?_)
  ·simp[w,g,J,fG];exact Gt ok (q.put g B _)
  simp at T;have⟨j,S⟩:∃j:Nat,s.pC=j:=⟨s.pC.toNat,B⟩;have di:j<c.j3.length:=B;have ed:(a.size=h'.size)=False:=dR;have bX:(a.size+1=h'.size)=False:=dR;have b6:(a.size+1+1=h'.size)=False:=dR;have dk:=b9.low;simp[K,L,F,I,S,di,dk,zO];generalize c.j3[j]=m at*
  have eF:=q.cons (X 6 1 [m.t]);have eu:ZE N s:=⟨by have:=o.rl;have:=tb.rl;omega,by have:=o.tl;have:=tb.rl;omega,o.tn⟩;have eB:∀d,((fJ h' (a.size+1+1) d).cons (X 6 1 [m.t])).get (a.size+1+1)=some d:=λd=>by rw[fk,Z dR];exact J d
  refine fN (λaA=>?_) (λaA=>?_)
  ·have c4:∀d:jK,∀c,a.size+1+1+1<=c->c<h'.size->((fJ h' (a.size+1+1) d).cons (X 6 1 [m.t])).get c=h'.get c:=λd c er a8=>by rw[fk,Z dR,eG g,Z B]
   simp[L,w,I,g,bX,b6,S,J,fG,show a.size+1+1<h'.size by omega];have:=Zv (i:=⟨c,f,D,b,bs,bW,bH,N⟩) (args:=[c.t,El f D b]) (ok:=true) ok ((q.put g B (X 4 1 [.eZ [C s.pC,O,P,C s.ej]])).cons (X 6 1 [m.t])) (λc y=>(show a.size<=c from y)) ((bi.mono (ax _) (ax _) (c4 _)).fz (λc=>a.size<=c) λc r _=>by omega) eu (.inl aX);rw[S]at this;exact this
  simp at aA;have bN:1<=m.op/\m.op<=5:=by unfold zd at aA;simpa using aA
  have dm:decide ((W:Int)=c.j3.length)=decide (W=c.j3.length):=by rw[decide_eq_decide];omega
  simp[K,R,F,ed,dm];refine fN (λds=>?_) (λds=>?_)
  ·simp[w,g,b6,fG,J,show a.size+1+1<h'.size by omega];exact Gt ok ((q.put g B _).cons _)
  simp[L,I,bX,S];have ey:=bi.mono (h':=h'.cons (X 6 1 [m.t])) (ax _) (ax _) λc _ r=>by rw[fk,Z B]
  refine jB TA G ⟨m,s,O,P,ap,a.size+1+1+1,h'.size,N⟩ ⟨by simp[El,S],ey,G,b9.cons _,bN.1,bN.2,⟨rfl,by have:=o.rl;have:=o.tl;simp only;omega,o.tn⟩,by have:=tb.rl;have:=o.rl;simp only;omega,bB⟩ ?_;rintro _ n ⟨ae,a2,aN,Ea,eo,rfl,cb,bu,ab,bA⟩;simp only[ad6]at cb bu ab bA;have eK:=ab.sz;have av:∀c,c<a.size+1+1+1->n.get c=h'.get c:=λc r=>(bu c B (.inl r)).trans (by rw[fk,Z B]);have ea:=(av a.size B).trans F;have U:=(av (a.size+1) B).trans I;have aE:=(av (a.size+1+1) B).trans g;have eE:(a.size=n.size)=False:=dR;have eb:(a.size+1=n.size)=False:=dR;have ec:(a.size+1+1=n.size)=False:=dR;have b8:Nb a n:=⟨⟨ab.hp,ab.low,B⟩,λc r=>(av c B).trans (q.get c r)⟩;have c1:∀d,(fJ n (a.size+1+1) d).get (a.size+1+1)=some d:=λd=>(eG aE d _).trans (au rfl);simp[El,ab.low,fG];cases eo with
  |false=>
   simp[w,aE,ec,fG,c1,show a.size+1+1<n.size by omega];exact Gt ok ((b8.put aE B _).cons _)
  |true=>
   have⟨t2,eA⟩:=bA rfl;simp[K,L,w,R,U,eb,fG,c9,show a.size+1<n.size by omega];have e:∀c,c<a.size+1+1+1->c≠a.size+1->((fJ n (a.size+1) (X 4 (al+1) [.eZ [C ae.pC,a2,aN,C ae.ej]])).cons (X 4 1 [.eZ [C ae.pC,a2,aN,C ae.ej]])).get c=n.get c:=λc er a8=>by rw[fk,Z dR,eG U,Z a8]
   refine⟨ae,a2,aN,Ea,al+1,cb.mono (ax _) G λc r a8=>?_,(b8.put U B _).cons _,dR,(e _ B B).trans ea,?_,(e _ B B).trans aE,⟨by rw[t2.rl];exact o.rl,by rw[t2.tl];exact o.rl,t2.tn⟩,by rw[eA];exact aX⟩
   ·rw[fk,Z dR,eG U,Z B]
   ·rw[fk,Z dR,eG U,au rfl]
 ·rintro A h' ⟨s,O,P,ap,al,⟨bi,q,dv,F,I,g,o,aX⟩,K,L,w,R⟩;have J:∀d,(fJ h' (a.size+1+1) d).get (a.size+1+1)=some d:=λd=>(eG g d _).trans (au rfl);have dd:((c.j3.length:Int)+1<=c.j3.length)=False:=dR;simp[K,w,R,F,g,J,fG,dd];exact Gt ok (q.put g B _)
 ·simp;exact⟨f,a1,p,es1,1,et,b7,by have:=b7.ok.sz;have:=H.gh bp;omega,cL,cX,bp,⟨rfl,B,tb.tn⟩,rfl⟩
def zG:List Int:=[3,3,4,4,5,6,7,8,9,10,11,12,13,14,15,16,18,19,20,21,22,23,2]
def oM(a:Int):Int:=if a<6\/28<a then 0 else zG.getD (a-6).toNat 0
def BB:iK:=⟨Int,λa=>[C a],λa=>True,λa=> C (oM a),λa c b=>by simp at b;rw[b]⟩
def TR:BB.Ok prog cx 205:=by
 refine iF [] (jF 1037 [] func205) (λl=>1) (by simp[BB]) ?_;rintro(b:Int) m n f;simp[BB]at f|-;by_cases h:b<6\/28<b
 ·have d:oM b=0:=by unfold oM;rw[au h]
  rcases h with h|h<;>simp[f205,f,h,d]
 ·have⟨a,i⟩:∃a:Nat,b=(a:Int)+6:=⟨(b-6).toNat,B⟩;subst i;have g:a<23:=B;have⟨e,d⟩:∃e,zG[a]? =some e:=⟨_,aB (show a<zG.length from g)⟩;have c:(zG.map (T.int .i64))[a]? =some (C e):=by rw[aR,d];rfl
  have j:oM ((a:Int)+6)=e:=by
   unfold oM;rw[Z h,show((a:Int)+6-6).toNat=a by omega];simp[List.getD,d]
  have k:binop .sub (C ((a:Int)+6)) (C 6)=some (C (a:Int)):=by rw[mh B B];congr 2;omega
  simp only[zG,aO,bF]at c;have⟨_,c⟩:=List.getElem?_eq_some_iff.1 c;simp[f205,f,show¬(a:Int)+6<6 by omega,show¬(28:Int)<(a:Int)+6 by omega,k,g,c,j]
def X1{b:io}(ht:b.p 205=some BB)(a:Int):rl prog cx b 205 [C a]=some (C (oM a)):=iN ht TR a trivial
structure ab1(c:kP)(s:jD):Prop where
 v:UQ c
 f:mK c.fM s.gu=true
 cl:s.cells.length=c.fM.cells.length
 fu:s.fH.length=c.fM.fH.length
 th:s.ee.length=c.ee.length
 t:∀(i:Nat) (t:fV) (x:iC),s.ee[i]? =some t->c.ee[i]? =some x->0<=t.pC/\t.pC<x.j3.length/\t.jN.length=x.jN/\t.lr.length=x.jN
def LR{a:kP}(b:UQ a):a.fM.iL.length<=2/\a.ee.length<=4:=by
 have:=b.1;unfold kM vk at this;simp only[az,aM]at this;have c:=b.2.1;omega
def KT:pM prog cx 204 (λh:kP×jD=>[h.1.t,h.2.t]) (λh=>∀a∈h.1.ee,a.j3.length<=10000001) (λh=>Lp (ab1 h.1 h.2)):=by
 refine jU [(90,zt.kc),(36,uj)] (jF 158456325028530997355645763711 [] func204) (λ_=>100) (λh b g=>by simp at g;exact aD (kP.inj g.1) (jD.inj g.2)) ?_;rintro⟨f,l⟩ x m I;replace x:∀a∈f.ee,a.j3.length<=10000001:=x;simp at I;obtain⟨F,H⟩:=I;obtain⟨_,⟨b,rfl,Q⟩,E⟩:=zt.use f x;cases b with
 |false=>simp[f204,F,H,E]
 |true=>
  have J:=Q rfl;have⟨al,an⟩:=LR J;simp[f204,F,H,E,vS,show f.fM.iL.length<=1099511627776 by omega];refine fN (λD=>?_) (λD=>?_)
  ·simp
  simp only[cT,c8,aM]at D;obtain⟨⟨⟨U,Z⟩,ab⟩,ae⟩:=D;simp;generalize q:(hE.cons _).cons _=w;have T:iQ 2 w:=by rw[<-q];exact⟨G,G,G⟩
  have j:w.get 0=some (X 7 0 [f.t]):=by rw[<-q];simp
  have n:w.get 1=some (X 7 0 [l.t]):=by rw[<-q];simp
  clear q;refine ik f.ee.length B (λe m g=>iQ 2 g/\g.get 0=some (X 7 0 [f.t])/\g.get 1=some (X 7 0 [l.t])/\(∀(d:Nat) (c:fV) (a:iC),d<e->l.ee[d]? =some c->f.ee[d]? =some a->0<=c.pC/\c.pC<a.j3.length/\c.jN.length=a.jN/\c.lr.length=a.jN)/\Y m 2 (.fc 0 0 0 0)/\Y m 3 (.fc 1 0 0 0)/\Y m 5 (C e)) ?_ ?_ B ?_
  ·rintro e m g z P ⟨i,j,n,A,o,v,p⟩;have L:=i.ne (b:=0) B;have S:=i.ne (b:=1) B;have y:e<l.ee.length:=B;have⟨c,ht⟩:∃c,l.ee[e]? =some c:=⟨_,aB y⟩;have⟨a,k⟩:∃a,f.ee[e]? =some a:=⟨_,aB z⟩;have N:l.ee[e]=c:=by rw[aB y]at ht;simpa using ht
   have O:f.ee[e]=a:=by rw[aB z]at k;simpa using k
   simp[j,n,o,v,p,z,y,L,i.low,N,O];refine fN (λu=>?_) (λu=>?_)
   ·simp[i.hp]
   simp only[cT,c8,aM,cv]at u;simp[o,v,p,P];refine⟨i.cons _,by simpa[L]using j,by simpa[S]using n,λd V W R r s=>?_⟩;rcases aT d e with K|K
   ·exact A d V W K r s
   ·have:d=e:=B;subst this;rw[ht]at r;rw[k]at s;simp only[aw]at r s;subst r s;exact⟨B,B,u.1.2,u.2⟩
  ·rintro m g ⟨i,j,n,A,o,v,p⟩;simp[j,o,p,i.hp];exact⟨J,U,B,B,B,λd c a ht k=>A d c a (List.getElem?_eq_some_iff.1 k).1 ht k⟩
  ·exact⟨T,j,n,λd c a R=>by omega,G⟩
def KS:pM prog cx 236 (λa:Int×Int=>[C a.1,C a.2]) (λa=>True) (λ_=>Ik):=by
 refine jU [] (jF 4275 [] func236) (λ_=>10) (λa i b=>by simp at b;exact aD b.1 b.2) ?_;rintro⟨k,f⟩ _ j d;simp at d;obtain⟨g,c⟩:=d;by_cases e:f<1
 ·simp[f236,c,e]
 ·simp[f236,g,c,e,D1 (show¬f=0 by omega)];refine fN (λh=>?_) (λh=>?_)<;>simp[c,qm]
def abZ(a:iE)(b:fV):Prop:=(a.op=7\/a.op=9)->ju a.c b.jN.length=true
def FD:pM prog cx 206 (λb:iE×fV=>[b.1.t,b.2.t]) (λb=>abZ b.1 b.2) (λ_=>Ik):=by
 refine jU [(236,KS.kc)] (jF 1099578740959 [(6,[(1,10)]),(8,[(1,10)])] func206) (λ_=>10) (λb w i=>by simp at i;exact aD (iE.inj i.1) (fV.inj i.2)) ?_;rintro⟨a,v⟩ d x o;replace d:abZ a v:=d;simp at o;obtain⟨j,k⟩:=o;have⟨s,f⟩:=KS.fnI (γ:=Int×Int) id (λ_=>trivial);have f:∀{r:io},r.p 236=some (wR prog cx 236 (λb:Int×Int=>[C b.1,C b.2]) (λb=>True) (λ_=>Ik))->∀h g,rl prog cx r 236 [C h,C g]=some (C (s (h,g))):=λht h g=>f ht (h,g);cases c:decide (a.op=7)with
 |true=>
  have⟨u,hr,_⟩:=jn (d (.inl (by simpa using c)));have n:=fU (fQ.1 (d (.inl (by simpa using c)))).1;have m:decide (a.op=6)=false:=by
   have:a.op=7:=by simpa using c
   exact aS B
  have l:decide (a.op=27)=false:=by
   have:a.op=7:=by simpa using c
   exact aS B
  simp[f206,j,k,c,m,l,hr,n,f,qm]
 |false=>
  cases e:decide (a.op=9)with
  |true=>
   have⟨u,hr,_⟩:=jn (d (.inr (by simpa using e)));have n:=fU (fQ.1 (d (.inr (by simpa using e)))).1;have m:decide (a.op=6)=false:=by
    have:a.op=9:=by simpa using e
    exact aS B
   have l:decide (a.op=27)=false:=by
    have:a.op=9:=by simpa using e
    exact aS B
   simp[f206,j,k,c,e,m,l,hr,n,f,qm]
  |false=>
   simp[f206,j,k]
   repeat' (refine fN (λq=>?_) (λq=>?_)<;>simp[q,c,e])
def PW{a:H}(h:iQ 0 a)(b:List Int)(hl:b.length<=1000000):∃f c,jx cx a 38 38 dV (sl (iz b))=some (.val f c)/\Gr c f 1 (iz b)/\Nb a c/\(∀d,fq f=some d->a.size<=d)/\(c=a\/c=a.cons ⟨1,0,0,false,false,iz b⟩):=by
 unfold jx ql nD;simp only[kO,fw,show pI.u= .slice 3 from rfl,nP,Uu];cases b with
 |nil=>exact⟨_,_,rfl,Gr.nil _ _,Nb.refl h,λd e=>by simp at e,.inl rfl⟩
 |cons g b=>
  refine⟨.arr a.size 0 0 (iz (g::b)).length false,a.cons ⟨1,0,0,false,false,iz (g::b)⟩,?_,Gr.new (ep:=0) (ver:=0) (ex:=false) G,(Nb.refl h).cons _,λd e=>by simp at e;omega,.inr rfl⟩;rw[mc (by simp[T.cells]),jf];show kr (a.jH 1 8 [] (iz (g::b)))=_;rw[qW (by simp[T.cells]) dT (by simp at hl|-;omega)];rfl
structure PeP(c:kP)(s:jD)(th:Int)(e:fR)(t:fV)(x:iC)(i:iE):Prop where
 f:ab1 c s
 n:ju th c.ee.length=true
 ht:s.ee[th.toNat]? =some t
 hx:c.ee[th.toNat]? =some x
 hi:x.j3[t.pC.toNat]? =some i
 k:e.fh=1\/e.fh=17\/(e.fh=oM i.op/\e.fh≠0)
def ad0(a:Nat)(c:jD):Prop:=∀d∈c.ee,∀b∈d.lr,b.length<=a
def evN(a:Nat)(b:fR):Prop:=b.nQ.length<=a/\b.wm.length<=a
def dZ(c:kP)(f:jD)(h:Int)(e:T):Prop:=∃(a:fR) (b:Bool),e= .tuple [a.t,.ez b]/\evN 1000000 a/\(b=true->∃g i d,PeP c f h a g i d)
def Lr{f:kP}{m:jD}(g:ab1 f m){d:Int}(h:ju d f.ee.length=true):∃b a c,lJ d=some d.toNat/\m.ee[d.toNat]? =some b/\f.ee[d.toNat]? =some a/\lJ b.pC=some b.pC.toNat/\a.j3[b.pC.toNat]? =some c/\b.jN.length=a.jN/\b.lr.length=a.jN/\(∀e∈jP c,0<=e/\e<a.jN)/\a.jN<=32:=by
 have⟨a,i,_⟩:=jn h;have j:=h;rw[<-g.th]at j;have⟨b,ht,_⟩:=jn j;have⟨p1,p2,p3,p4⟩:=g.t _ _ _ ht i;have⟨c,k⟩:∃c,a.j3[b.pC.toNat]? =some c:=⟨_,aB B⟩;have l:=g.v.2.2 a (aC i);exact⟨b,a,c,fU (fQ.1 h).1,ht,i,fU p1,k,p3,p4,λe hr=>l.2.2 c (aC k) e hr,l.2.1⟩
structure PJ(th:Int)(t:fV)(i:iE)(o:Int)(h':H)(dv:T)(d:List Int)(ver:Nat):Prop where
 ok:iQ 6 h'
 b2:h'.get 2=some (X 7 0 [.eZ [C 0,C 0,C 0,C 0,C 0,dV,dV]])
 b3:h'.get 3=some (X 4 1 [t.t])
 b4:h'.get 4=some (X 6 1 [i.t])
 b5:h'.get 5=some (X 7 ver [.eZ [C th,C (oM i.op),C o,C 0,C i.jY,dv,dV]])
 g:Gr h' dv 1 (iz d)
 l:d.length<=1000000
 bx:∀c,fq dv=some c->6<=c
def PJ.app{p:Int}{t:fV}{j:iE}{o:Int}{h:H}{q:Nat}(e:PJ p t j o h dV [] q)(k:List Int)(hl:k.length<=1000000):∃c b,jx cx h 38 38 dV (sl (iz k))=some (.val c b)/\c.jc=true/\c.cells=[c]/\(∀a,a<6->b.get a=h.get a)/\iQ 6 b/\
 ∀d,d=((X 7 (q+1) [.eZ [C p,C (oM j.op),C o,C 0,C j.jY,c,dV]]):jK)->PJ p t j o (fJ b 5 d) c k (q+1):=by
 have w:=e.ok.sz;have⟨c,b,u,m,l,r,_⟩:=PW ⟨e.ok.hp,e.ok.low,ay _⟩ k hl;have f:∀a,a<6->b.get a=h.get a:=λa i=>l.get a B;have s:iQ 6 b:=⟨l.ok.hp,l.ok.low,aU w l.ok.sz⟩;have v:=(f 5 B).trans e.b5;have g:∀d a,(fJ b 5 d).get a=if a=5 then some d else b.get a:=λd a=>eG v d a;refine⟨c,b,u,m.jc,m.cells,f,s,?_⟩;rintro d rfl;exact⟨s.put _ _,by rw[g,Z B];exact(f 2 B).trans e.b2,by rw[g,Z B];exact(f 3 B).trans e.b3,by rw[g,Z B];exact(f 4 B).trans e.b4,by rw[g,au rfl],m.mono λa i=>by rw[g,Z (by have:=r a i;omega)],hl,λa i=>by have:=r a i;omega⟩
def CU:pM prog cx 160 (λo:kP×jD×Int=>[o.1.t,o.2.1.t,C o.2.2]) (λo=>(∀x∈o.1.ee,x.j3.length<=10000001)/\ad0 1000000 o.2.1) (λo=>dZ o.1 o.2.1 o.2.2):=by
 refine jU [(204,KT.kc),(205,BB),(206,FD.kc)] (jF 10633824283312870803151638865622599647 [(11,[(2,8),(4,8),(6,8)]),(14,[(2,3),(2,4)])] func160) (λ_=>100) (λo c1 h=>by simp at h;exact aD (kP.inj h.1) (aD (jD.inj h.2.1) h.2.2)) ?_;rintro⟨d,s,q⟩ ⟨bX,b8⟩ P bT;simp only at bX b8;simp at bT;obtain⟨c9,bn,N⟩:=bT;obtain⟨_,⟨c1,rfl,bW⟩,bC⟩:=KT.use (d,s) bX;simp only at bW bC;have bp:dZ d s q (.tuple [fR.t ⟨0,0,0,0,0,[],[]⟩,.ez false]):=⟨_,_,rfl,⟨G,G⟩,G⟩;simp[f160,c9,bn,N,bC];refine fN (λbs=>?_) (λbs=>?_)
 ·simp;exact bp
 simp only[cT,c8,cv]at bs;obtain⟨⟨rfl,cF⟩,eh⟩:=bs;have an:=bW rfl;have bu:ju q d.ee.length=true:=fQ.2 ⟨B,B⟩;have⟨z,x,e,b9,bA,ca,dn,cb,eb,ec,cd,ed⟩:=Lr an bu;have dk:ju q s.gu.ee.length=true:=by
  rw[(kY an.f).2.2,<-an.v.2.1];exact bu
 have⟨u,cX,_⟩:=jn dk;simp[N,b9,bA,ca,dn,cb,cX];have av:∀A:fR,evN 1000000 A->(A.fh=1\/A.fh=17\/(A.fh=oM e.op/\A.fh≠0))->dZ d s q (.tuple [A.t,.ez true]):=λA bn N=>⟨A,true,rfl,bn,λ_=>⟨z,x,e,an,bu,bA,ca,cb,N⟩⟩;refine fN (λcF=>?_) (λcF=>?_)
 ·simp[N];exact av ⟨q,1,-1,0,-1,[],[]⟩ ⟨G,G⟩ (.inl rfl)
 cases a6:decide (u.je=4)with
 |true=>
  simp[N,a6,b9,cX];exact av ⟨q,17,u.cond,0,e.jY,[],[]⟩ ⟨G,G⟩ (.inr (.inl rfl))
 |false=>
 cases bB:decide (u.je=2)with
 |false=>
  simp[a6,bB];exact bp
 |true=>
  have b7:∀r∈jP e,ju r z.lr.length=true:=λr hr=>by have:=cd r hr;exact fQ.2 ⟨B,B⟩
  have de:abZ e z:=λk=>by
   have hr:e.c∈jP e:=by unfold jP;rcases k with k|k<;>simp[k]
   have:=cd _ hr;exact fQ.2 ⟨B,B⟩
  obtain⟨_,⟨R,rfl⟩,bH⟩:=FD.use (e,z) de;simp only at bH;simp[a6,bB,X1,bH];refine fN (λK=>?_) (λK=>?_)
  ·simp;exact bp
  have b6:oM e.op≠0:=by simpa using K
  simp;generalize O:H.cons _ _=I;have aA:iQ 6 I:=by rw[<-O];exact⟨G,G,G⟩
  have c4:I.get 2=some (X 7 0 [.eZ [C 0,C 0,C 0,C 0,C 0,dV,dV]]):=by rw[<-O];simp
  have U:I.get 3=some (X 4 1 [z.t]):=by rw[<-O];simp
  have W:I.get 4=some (X 6 1 [e.t]):=by rw[<-O];simp
  have y:∃aX,I.get 5=some (X 7 aX [.eZ [C q,C (oM e.op),C R,C 0,C e.jY,dV,dV]]):=⟨3,by rw[<-O];simp⟩;clear O;obtain⟨dv,y⟩:=y;have aE:∀{r:Int},r∈jP e->∃m,lJ r=some r.toNat/\z.lr[r.toNat]? =some m/\m.length<=1000000:=λ{r} hr=>by
   have⟨m,hl,_⟩:=jn (b7 r hr);exact⟨m,fU (fQ.1 (b7 r hr)).1,hl,b8 z (aC bA) m (aC hl)⟩
  have ef:iQ 0 I:=⟨aA.hp,aA.low,ay _⟩;have er:=aA.sz;have ap:PJ q z e R I dV [] dv:=⟨aA,c4,U,W,y,Gr.nil _ _,G,λd K=>by simp at K⟩;refine lV (λP h'=>∃ae L aX,PJ q z e R h' ae L aX/\Y P 6 (.fc 2 0 0 0)/\Y P 8 (.fc 3 0 0 0)/\Y P 9 (.fc 4 0 0 0)/\Y P 10 (.fc 5 0 0 0)) (λcL=>?_) (λcL=>?_) ?_
  ·have al:e.op=10:=by simpa using cL
   have⟨m,l1,l2,l3⟩:=aE (r:=e.a) (by unfold jP;simp[al]);have⟨aN,p,F,T,S,D,cp,fin⟩:=ap.app m l3;have sv:=λd (n:d<6)=>il (D d n);have E:=(D 5 B).trans y;simp[U,W,y,l1,l2,F,T,S,E,fG];exact⟨_,_,_,fin _ rfl⟩
  ·cases ab:decide (e.op=7)with
   |true=>
    have⟨m,l1,l2,l3⟩:=aE (r:=e.c) (by unfold jP;simp[show e.op=7 by simpa using ab]);have⟨aN,p,F,T,S,D,cp,fin⟩:=ap.app m l3;have sv:=λd (n:d<6)=>il (D d n);have E:=(D 5 B).trans y;simp[ab,U,W,y,l1,l2,F,T,S,E,fG];exact⟨_,_,_,fin _ rfl⟩
   |false=>
   cases a7:decide (e.op=9)with
   |true=>
    have⟨m,l1,l2,l3⟩:=aE (r:=e.c) (by unfold jP;simp[show e.op=9 by simpa using a7]);have⟨aN,p,F,T,S,D,cp,fin⟩:=ap.app m l3;have sv:=λd (n:d<6)=>il (D d n);have E:=(D 5 B).trans y;simp[ab,a7,U,W,y,l1,l2,F,T,S,E,fG];exact⟨_,_,_,fin _ rfl⟩
   |false=>
    simp[ab,a7];exact⟨_,_,_,ap⟩
  rintro P h' ⟨ae,L,aX,j,bN,dd,bS,al⟩;have eo:=j.ok.sz;have ds:iQ 0 h':=⟨j.ok.hp,j.ok.low,ay _⟩;simp[bS,j.b4];refine fN (λK=>?_) (λK=>?_)
  ·have di:e.op=8\/e.op=9\/e.op=26:=by
    simp only[cu,aM]at K;omega
   have⟨m,l1,l2,l3⟩:=aE (r:=e.b) (by unfold jP;rcases di with k|k|k<;>simp[k]);have⟨aN,p,F,bg,J,c6,_⟩:=PW ds m l3;have sv:=λd (n:d<6)=>il (J.get d B);have ea:=(J.get 2 B).trans j.b2;have E:=(J.get 5 B).trans j.b5;have Q:∀i d,(fJ p 5 i).get d=if d=5 then some i else p.get d:=λi d=>eG E i d;have bi:∀i w d,(fJ (fJ p 5 i) 2 w).get d=if d=2 then some w else if d=5 then some i else p.get d:=λi w d=>by
    rw[ou (by simp;exact J.ok.hp) (by have:=J.ok.sz;simp;omega),Q]
   have a8:∀i w,TI.fz (fJ (fJ p 5 i) 2 w) ae=some (sl (iz L)):=λi w=>(j.g.mono (h':=fJ (fJ p 5 i) 2 w) λd n=>by
    have⟨_,_,_,_,dm,_⟩:=j.g.box n;have:=j.bx d n;rw[bi,Z B,Z B];exact J.get d (H.gh dm)).fz G
   have c7:∀i w,TI.fz (fJ (fJ p 5 i) 2 w) aN=some (sl (iz m)):=λi w=>(bg.mono (h':=fJ (fJ p 5 i) 2 w) λd n=>by
    have:=c6 d n;rw[bi,Z B,Z B]).fz G
   simp[bN,dd,bS,al,j.b3,j.b4,j.b5,l1,l2,F,bg.jc,bg.cells,ea,E,Q,bi,a8,c7,fG,J.ok.hp];exact av ⟨q,oM e.op,R,0,e.jY,L,m⟩ ⟨j.l,l3⟩ (.inr (.inr ⟨rfl,b6⟩))
  ·have Q:∀i d,(fJ h' 2 i).get d=if d=2 then some i else h'.get d:=λi d=>eG j.b2 i d;have a8:∀i,TI.fz (fJ h' 2 i) ae=some (sl (iz L)):=λi=>(j.g.mono (h':=fJ h' 2 i) λd n=>by
    have:=j.bx d n;rw[Q,Z B]).fz G
   simp[bN,al,j.b2,j.b5,Q,a8,fG,j.ok.hp];exact av ⟨q,oM e.op,R,0,e.jY,L,[]⟩ ⟨j.l,G⟩ (.inr (.inr ⟨rfl,b6⟩))
structure Yr(n0:Nat)(h':H)(ct:T)(es:List T)(ts:List fV)(lo hi:Nat->Nat):Prop where
 g:Gr h' ct 4 es
 l:es.length=ts.length
 e:∀(i:Nat) (e:T) (t:fV),es[i]? =some e->ts[i]? =some t->∃a b el,e=El t a b/\DV (lo i) (hi i) h' a b el t
 m:∀i,i<ts.length->n0<=lo i/\hi i<=h'.size
 d:∀i j,i<j->j<ts.length->hi i<=lo j
 c:∀c,fq ct=some c->n0<=c/\∀i,i<ts.length->¬(lo i<=c/\c<hi i)
def Yr.mono{j:Nat}{f h':H}{k:T}{n:List T}{s:List fV}{q h:Nat->Nat}(b:Yr j f k n s q h)(E:f.size<=h'.size)(p:∀a,j<=a->a<f.size->h'.get a=f.get a):Yr j h' k n s q h:=
 ⟨b.g.mono λa r=>p a (b.c a r).1 (by have⟨_,_,_,_,z,_⟩:=b.g.box r;exact H.gh z),b.l,λi v D A o=>by
   have⟨t,u,y,w,x⟩:=b.e i v D A o;have F:=b.m i (by have:=(List.getElem?_eq_some_iff.1 o).1;exact this);exact⟨t,u,y,w,x.mono (ax _) (ax _) λa I J=>p a B B⟩,λi h=>by have:=b.m i h;omega,b.d,b.c⟩
def Yr.app{z:Nat}{o r I:H}{w E:T}{y:List T}{i:List fV}{K h:Nat->Nat}(f:Yr z o w y i K h)(ae:z<=o.size)(L:Nb o r){s t:T}{F:List T}{v:fV}(ab:DV o.size r.size r s t F v)(x:Xt r w 4 (y++[El v s t]) E I):
 Yr z I E (y++[El v s t]) (i++[v]) (λa=>if a=i.length then o.size else K a) (λa=>if a=i.length then r.size else h a):=by
 have an:=L.ok.sz;have ap:=x.2.2.2.sz;have D:∀b,fq w=some b->b<o.size:=λb q=>by have⟨_,_,_,_,U,_⟩:=f.g.box q;exact H.gh U
 refine⟨x.1,by simp[f.l],λa P u p k=>?_,λa h=>?_,λa J V W=>?_,λb q=>?_⟩
 ·by_cases q:a=i.length
  ·subst q;rw[du (ax _),Nat.sub_self]at k;rw[du (by rw[f.l];exact ax _),f.l,Nat.sub_self]at p;simp at p k;subst p;subst k;refine⟨s,t,F,rfl,?_⟩;simp only[bw];exact ab.mono (ax _) (ax _) λb M A=>x.2.1 b A λq=>by have:=D b q;omega
  ·have h:a<i.length:=by have:=(List.getElem?_eq_some_iff.1 k).1;simp at this;omega
   rw[cK h]at k;rw[cK (by rw[f.l];exact h)]at p;have⟨N,O,S,Q,R⟩:=f.e a P u p k;have al:=f.m a h;rw[Z q,Z q];exact⟨N,O,S,Q,R.mono (ax _) (ax _) λb M A=>(x.2.1 b B λq=>((f.c b q).2 a h ⟨M,A⟩)).trans (L.get b B)⟩
 ·simp at h;by_cases q:a=i.length
  ·rw[au q,au q];omega
  ·rw[Z q,Z q];have:=f.m a B;omega
 ·simp at W;by_cases q:J=i.length
  ·rw[Z B,au q];have:=f.m a B;omega
  ·rw[Z B,Z q];exact f.d a J V B
 ·rcases x.2.2.1 b q with q|q
  ·refine⟨(f.c b q).1,λa h=>?_⟩;simp at h;by_cases j:a=i.length
   ·rw[au j,au j];have:=D b q;omega
   ·rw[Z j,Z j];exact(f.c b q).2 a B
  ·refine⟨B,λa h=>?_⟩;simp at h;by_cases j:a=i.length
   ·rw[au j,au j];omega
   ·rw[Z j,Z j];have:=f.m a B;omega
def Mb{b f:Type}{c:f->b->Prop}{d:b->f}(e:∀x,c (d x) x):∀a:List b,jw c (a.map d) a
 | []=> .nil
 |x::a=> .cons (e x) (Mb e a)
def dU(a:jD)(d:List T)(c:H):Prop:=d=[a.t]/\iQ 0 c/\HP a.gu [a.gu.t] c/\a.cells.length<=1000000/\a.fH.length<=1000000/\a.ee.length<=1000000/\∀b∈a.ee,b.jN.length<=1000000/\b.lr.length<=1000000/\∀e∈b.lr,e.length<=1000000
structure Cp9(s:jD)(h h':H)(c0 c2 c3 cc cf ct:T)(es:List T)(lo hi:Nat->Nat)(n0:Nat):Prop where
 nb:Nb h h'
 z:h.size<=n0
 zn:n0<=h'.size
 k0:c0.jc=true/\c0.cells=[c0]/\c2.jc=true/\c2.cells=[c2]/\c3.jc=true/\c3.cells=[c3]
 gc:Gr h' cc 1 (iz s.cells)
 gf:Gr h' cf 1 (iz s.fH)
 bc:∀c,fq cc=some c->h.size<=c/\c<n0
 bf:∀c,fq cf=some c->h.size<=c/\c<n0/\fq cc≠some c
 th:Yr n0 h' ct es s.ee lo hi
def Tg(g:jD)(o:List T)(i:H)(n:T)(j:H):Prop:=∃a b c d e f h l k m,n= .eZ [a,C g.gu.tx,b,c,d,e,f]/\Cp9 g i j a b c d e f h l k m
structure Cq(s:jD)(h:H)(c0 c2 c3 cc cf:T)(q:Nat)(h':H)(k:Nat)(ct:T)(es:List T)(lo hi:Nat->Nat)(ver:Nat):Prop where
 nb:Nb h h'
 b1:h'.get h.size=some (X 7 0 [s.t])
 b2:h'.get (h.size+1)=some (X 7 0 [.eZ [dV,C 0,dV,dV,dV,dV,dV]])
 b3:h'.get q=some (X 7 ver [.eZ [c0,C s.gu.tx,c2,c3,cc,cf,ct]])
 gc:Gr h' cc 1 (iz s.cells)
 gf:Gr h' cf 1 (iz s.fH)
 th:Yr (q+1) h' ct es (s.ee.take k) lo hi
def T4:(km jD dU Tg).Ok prog cx 168:=by
 refine kh (tb:=⟨pt [],ht [(50,km gY HP MW),(211,km ICp SU MV)]⟩) jv jl (jF 2097183 [(1,[(2,3),(2,5),(2,7),(6,7),(2,9),(6,9),(2,12),(6,12),(10,12)]),(5,[(1,7)])] func168) (λ_ _=>1000005) (λw r d eN=>by obtain⟨rfl,_⟩:=eN;simp[f168]) ?_;rintro h _ d ⟨rfl,eW,⟨_,_,p1,p2,p3,p4⟩,fP,fS,fX,eR⟩ P de;simp at de;have cd:=eW.hr;simp[f168,de];generalize K:H.cons _ _=J;have e4:iQ 0 J:=by rw[<-K];exact(cd.cons _).cons _
 have gE:J.size=d.size+1+1:=by rw[<-K];rfl
 have eV:Nb d J:=by rw[<-K];exact⟨(((Nb.refl cd).cons _).cons _).ok,λa k=>((((Nb.refl cd).cons _).cons _).get a k).trans (iU d a)⟩
 have cL:J.get d.size=some (X 7 0 [h.t]):=by rw[<-K];simp
 have cX:J.get (d.size+1)=some (X 7 0 [.eZ [dV,C 0,dV,dV,dV,dV,dV]]):=by rw[<-K];simp
 clear K;refine mf FG G h.gu ⟨rfl,e4,p1,p2,p3,p4⟩ ?_;rintro _ b ⟨s,u,v,fv,rfl,O,I⟩;have gv:=I.ok.sz;have dk:iQ 0 b:=⟨I.ok.hp,I.ok.low,ay _⟩;have a1:=(I.get d.size B).trans cL;have a2:=(I.get (d.size+1) B).trans cX;have⟨aE,ap,bH,⟨gj,gm,bN⟩,eh,al,okB⟩:=lA (cx:=cx) (sz:=1) dk (x:=sl (h.cells.map (T.int .i64))) (xs:=h.cells.map (T.int .i64)) qT rfl Av qT rfl rfl G G (by simp[T.cells]) dR;have⟨aN,Q,aA,⟨gk,gn,aX⟩,fl,L,cb⟩:=lA (cx:=cx) (sz:=1) okB (x:=sl (h.fH.map (T.int .i64))) (xs:=h.fH.map (T.int .i64)) qT rfl Av qT rfl rfl G G (by simp[T.cells]) dR;have c6:∀a,a<b.size->gU (b.cons (X 1 0 [])) ap a=true:=λa k=>il ((al a k).trans (by rw[fk,Z B]));have c7:∀a,a<ap.size->gU (ap.cons (X 1 0 [])) Q a=true:=λa k=>il ((L a k).trans (by rw[fk,Z B]));have ea:=il (I.get d.size B);have ec:=c6 d.size B;have e5:=c7 d.size B;have ed:∀a,b.size+1<=a->gU (b.cons (X 1 0 [])) ap a=true:=λa k=>jL (mP _ dR);have ef:∀a,b.size+2<=a->gU (ap.cons (X 1 0 [])) Q a=true:=λa k=>jL (mP _ dR);have cF:∀a,b.size<=a->gU J b a=true:=λa k=>jL (mP _ B);have bC:=(al d.size B).trans a1;have c1:=(L d.size B).trans bC;have c4:=(L (d.size+1) B).trans ((al (d.size+1) B).trans a2);have fY:=dk.low;have gd:=okB.low;have gg:=cb.low;simp only[aI]at bH aA bN aX;rw[eh]at aA aX;have ff:(d.size=b.size)=False:=dR;have gw:(d.size+1=b.size)=False:=dR;have fi:(d.size=b.size+1)=False:=dR;have gy:(d.size+1=b.size+1)=False:=dR;have eb:=cF (b.size+1+1) B;have eL:s.jc=true/\s.cells=[s]/\u.jc=true/\u.cells=[u]/\v.jc=true/\v.cells=[v]:=⟨O.g0.jc,O.g0.cells,O.g2.jc,O.g2.cells,O.g3.jc,O.g3.cells⟩;obtain⟨ey,eA,eB,eC,eD,eE⟩:=eL;simp[Ql,a1,bH,aA,eh,fl,bC,ea,ec,cF,ed,ef,ff,fi,eb];have gi:d.size+1<b.size+1+1:=B;have fo:Q.size=b.size+1+1:=B;generalize ab:Q.cons ⟨7,0,0,true,false,_⟩=W;have fe:W.size=b.size+1+1+1:=by rw[<-ab];simp[size_cons,fo]
 have e0:iQ 0 W:=by rw[<-ab];exact iQ.cons ⟨cb.hp,cb.low,ay _⟩ _
 have bS:W.get (b.size+1+1)=some (X 7 0 [.eZ [dV,C 0,dV,dV,dV,dV,dV]]):=by
  rw[<-ab,fk,au B]
 have di:∀a,a<b.size+1+1->W.get a=Q.get a:=λa k=>by rw[<-ab,fk,Z B]
 generalize ae:fJ W _ _=F;have gD:F.size=b.size+1+1+1:=by rw[<-ae,iy,fe]
 have dn:iQ 0 F:=by rw[<-ae];exact e0.put _ _
 have eF:=(show F.get (b.size+1+1)=some (X 7 1 [.eZ [s,C h.gu.tx,u,v,.arr b.size aE 0 h.cells.length false,.arr (b.size+1) aN 0 h.fH.length false,dV]])by rw[<-ae];exact(eG bS _ _).trans (au rfl));have N:∀a,a<b.size+1+1->F.get a=Q.get a:=λa k=>by rw[<-ae,eG bS,Z B];exact di a k
 clear ae ab;have bT:Gr F (.arr b.size aE 0 h.cells.length false) 1 (iz h.cells):=by
  have:=Gr.new (((N b.size B).trans (L b.size B)).trans bN);simpa using this
 have bW:Gr F (.arr (b.size+1) aN 0 h.fH.length false) 1 (iz h.fH):=by
  have:=Gr.new ((N (b.size+1) B).trans aX);simpa using this
 have eU:Nb d F:=⟨⟨dn.hp,dn.low,B⟩,λa k=>(N a B).trans ((L a B).trans ((al a B).trans ((I.get a B).trans (eV.get a k))))⟩;have eo:=(N d.size B).trans c1;have er:=(N (d.size+1) B).trans c4;have av:∀a,fq (.arr b.size aE 0 h.cells.length false)=some a->a=b.size:=λa i=>by simpa using i.symm
 have R:∀a,fq (.arr (b.size+1) aN 0 h.fH.length false)=some a->a=b.size+1:=λa i=>by simpa using i.symm
 generalize T.arr b.size aE 0 h.cells.length false=D at*
 generalize T.arr (b.size+1) aN 0 h.fH.length false=E at*
 have bs:∀a,fq D=some a->d.size<=a/\a<b.size+1+1+1:=λa i=>by have:=av a i;omega
 have bu:∀a,fq E=some a->d.size<=a/\a<b.size+1+1+1/\fq D≠some a:=λa i=>⟨by have:=R a i;omega,by have:=R a i;omega,λcp=>by have:=av a cp;have:=R a i;omega⟩;have ds:∀a,fq D=some a->a≠b.size+1+1/\a≠d.size+1:=λa i=>by have:=av a i;omega
 have dv:∀a,fq E=some a->a≠b.size+1+1/\a≠d.size+1:=λa i=>by have:=R a i;omega
 clear av R bH aA bN aX ea ec e5 cF ed ef eb al L c6 c7 bC c1 c4 a1 a2 cL cX N di bS;generalize b.size+1+1=i at*
 have fA:=bT.jc;have fB:=bT.cells;have fC:=bW.jc;have fE:=bW.cells;refine vh h.ee.length (λo P h'=>∃p U bp bi an,Cq h d s u v D E i h' o p U bp bi an/\Y P 1 (.fc d.size 0 0 0)/\Y P 2 (.fc (d.size+1) 0 0 0)/\Y P 3 (.fc i 0 0 0)/\Y P 4 (C o)) ?_ B (ay _) ?_
 ·rintro o P h' fW ⟨p,U,bp,bi,an,f,bX,c9,a8,b6⟩;simp[bX,b6,f.b1];refine fN (λb7=>?_) (λb7=>?_)
  ·have b8:o<h.ee.length:=by simpa using b7
   have⟨m,bn⟩:∃m,h.ee[o]? =some m:=⟨_,aB b8⟩;have eM:h.ee[o]=m:=by rw[aB b8]at bn;simpa using bn
   have ca:=eR m (aC bn);simp[bX,a8,b6,f.b1,f.b3,b8,eM];have eX:iQ 0 h':=⟨f.nb.ok.hp,f.nb.ok.low,ay _⟩;refine mf KX G ⟨m,sl (iz m.jN),sl (m.lr.map tn1),m.lr.map tn1⟩ ⟨by rfl,⟨.inl rfl,.inl rfl,?_,?_⟩,eX,ca.1,ca.2.1,ca.2.2⟩ ?_
   ·exact Mb (λeS=> .inl rfl) _
   ·rintro e a (rfl|rfl|he) x
    ·simp at x
    ·simp at x
    ·obtain⟨eS,_,rfl⟩:=List.mem_map.1 he;simp[tn1]at x
   rintro _ a7 ⟨r,A,fs,rfl,fb,q⟩;have cp:i+1<=h'.size:=by have:=H.gh f.b3;omega
   have p3:=(q.get i B).trans f.b3;have eH:Gr a7 p 4 U:=f.th.g.mono λa x=>q.get a (by have⟨_,_,_,_,eu,_⟩:=f.th.g.box x;exact H.gh eu);have⟨bA,bg,et,z⟩:=eH.GR (cx:=cx) ⟨q.ok.hp,q.ok.low,ay _⟩ Px rfl Pu rfl G (x:=El m r A) rfl (by have:=f.th.l;simp at this;simp;omega);have e8:=il (q.get i B);have e7:∀a,a<a7.size->fq p≠some a->gU (a7.cons (X 4 0 [El m r A])) bg a=true:=λa k b9=>il ((z.2.1 a k b9).trans (by rw[fk,Z B]));have bB:fq p≠some i:=λx=>by have:=(f.th.c i x).1;omega
   have e6:=e7 i (by have:=q.ok.sz;omega) bB;have p4:=(z.2.1 i (by have:=q.ok.sz;omega) bB).trans p3;have eI:(El m r A).jc=true/\(El m r A).cells=[C m.pC,r,A,C m.ej]:=by simp[El,T.cells]
   have fL:El m r A= .eZ [C m.pC,r,A,C m.ej]:=rfl;simp[a8,b6,et,e8,eI,e6,p4,z.1.jc,z.1.cells,fG];rw[jp B B];simp;refine⟨o+1,B,B,⟨bA,U++[El m r A],λw=>if w=(h.ee.take o).length then h'.size else bp w,λw=>if w=(h.ee.take o).length then a7.size else bi w,an+1,?_⟩,bX,c9,a8,G⟩;have gz:=z.2.2.2.sz;have gB:=q.ok.sz;have gq:∀a,a<h'.size->a≠i->fq p≠some a->(fJ bg i (X 7 (an+1) [.eZ [s,C h.gu.tx,u,v,D,E,bA]])).get a=h'.get a:=λa k eO b9=>by
    rw[eG p4,Z eO,z.2.1 a B b9,q.get a k]
   have S:∀a,a<=i->fq p≠some a:=λa k x=>by have:=(f.th.c a x).1;omega
   have dm:iQ 0 bg:=⟨z.2.2.2.hp,z.2.2.2.low,ay _⟩;refine⟨⟨⟨(dm.put _ _).hp,(dm.put _ _).low,by rw[iy];have:=f.nb.ok.sz;omega⟩,λa k=>(gq a B B (S a B)).trans (f.nb.get a k)⟩,
    (gq _ B B (S _ B)).trans f.b1,(gq _ B B (S _ B)).trans f.b2,(eG p4 _ _).trans (au rfl),
    f.gc.mono λa x=>gq a (by have:=bs a x;omega) (ds a x).1 (S a (by have:=bs a x;omega)),f.gf.mono λa x=>gq a (by have:=bu a x;omega) (dv a x).1 (S a (by have:=bu a x;omega)),?_⟩
   have e9:=(f.th.app cp q fb z).mono (h':=fJ bg i (X 7 (an+1) [.eZ [s,C h.gu.tx,u,v,D,E,bA]])) (by rw[iy];exact ax _) λa x _=>by rw[eG p4,Z B]
   have eP:h.ee.take (o+1)=h.ee.take o++[m]:=by rw[dK,bn];rfl
   rw[eP];exact e9
  ·have eK:o=h.ee.length:=by
    have:¬o<h.ee.length:=by simpa using b7
    omega
   subst eK;have dd:=f.th;rw[aL]at dd;have bB:∀a,fq p=some a->i+1<=a:=λa x=>(f.th.c a x).1;simp[c9,a8,f.b2,f.b3,fG,eG f.b2];have a6:∀a,a≠d.size+1->(mX d (fJ h' (d.size+1) (X 7 1 [.eZ [s,C h.gu.tx,u,v,D,E,p]]))).get a=h'.get a:=λa k=>by rw[iB,eG f.b2,Z k]
   refine⟨s,u,v,D,E,p,U,bp,bi,i+1,rfl,⟨⟨((iQ.put (n:=0) ⟨f.nb.ok.hp,f.nb.ok.low,ay _⟩ _ _).out d).hp,((iQ.put (n:=0) ⟨f.nb.ok.hp,f.nb.ok.low,ay _⟩ _ _).out d).low,by rw[wI,iy];exact f.nb.ok.sz⟩,λa k=>(a6 a B).trans (f.nb.get a k)⟩,B,by rw[wI,iy];exact H.gh f.b3,⟨ey,eA,eB,eC,eD,eE⟩,
    f.gc.mono λa x=>a6 a (ds a x).2,f.gf.mono λa x=>a6 a (dv a x).2,bs,bu,dd.mono (by rw[wI,iy];exact ax _) λa x _=>a6 a B⟩
 ·refine⟨dV,[],λ_=>0,λ_=>0,1,⟨eU,eo,er,eF,bT,bW,⟨Gr.nil _ _,rfl,λw e m x=>by simp at x,λw x=>by simp at x,λw j x y=>by simp at y,λa x=>by simp at x⟩⟩,G⟩
section
def VA{j:Out}{e f:jE}(o:W j e)(q:∀d h,e.n d h->f.n d h)(v:∀i d h,e.x i d h->f.x i d h)(u:∀d h,e.r d h->f.r d h):W j f:=by
 obtain⟨l,d,h,m,g⟩:=o;refine⟨l,d,h,m,?_⟩;cases l with
 |normal=>exact q d h g
 |exit i=>exact v i d h g
 |ret=>exact u d h g
def Mh{cx:Ctx}{cf:jQ}{z y id:Nat}{u:DL}{t:Bool}{a b:Code}{m:Env->H->Out}{d:Env}{h:H}{f:jE}(l:iM->H->Prop)(v:CK (some (.ez t)) cx cf z y u a b d h (I9 m (uO id (AR (λd h=>d.tmps= .nil/\l d.vars h) f))))
 (D:∀o h,l o h->f.n ⟨o,.nil⟩ h):CK (some (.ez t)) cx cf z y u a b d h (I9 m (uO id f)):=by
 have q:∀d h,(d.tmps= .nil/\l d.vars h)->f.n d h:=λd h ⟨e,w⟩=>by obtain⟨o,E⟩:=d;simp only at e w;subst e;exact D o h w
 have A:∀g,W g (uO id (AR (λd h=>d.tmps= .nil/\l d.vars h) f))->W g (uO id f):=λg r=>VA r q (λi d h e=>by
  rw[B2]at e|-;split
  ·rename_i j;rw[au j]at e;exact q d h e
  ·rename_i j;rw[Z j]at e;exact e) λ_ _ e=>e
 have x:∀g,W g (I9 m (uO id (AR (λd h=>d.tmps= .nil/\l d.vars h) f)))->W g (I9 m (uO id f)):=λg r=>VA r (λd h e=>A _ e) (λi d h e=>by
  rw[aaU,B2]at e|-;split
  ·rename_i j;rw[au j]at e;exact q d h e
  ·rename_i j;rw[Z j]at e;exact e) λ_ _ e=>e
 cases t
 ·exact x _ v
 ·exact x _ v
structure StI(s:jD):Prop where
 l:s.gu.fI.length<=1000/\s.gu.done.length<=1000/\s.gu.ee.length<=1000/\s.cells.length<=1000/\s.fH.length<=1000/\s.ee.length<=1000
 r:GW 4 s.gu
 a:s.gu.Cx
 t:∀t∈s.ee,ZE 1000000 t
def evB(d:Nat)(s:jD):Prop:=∀t∈s.ee,0<=t.ej/\t.ej<=d
def ad3(s:jD)(j:T):Prop:=∃(d:jD) (f:fR) (g:Bool),j= .tuple [d.t,f.t,.ez g]/\evN 1000000 f/\(g=true->StI d/\∀e:Nat,evB e s->evB (e+1) d)
def DV.O8{lo l hi j:Nat}{h h':H}{a b:T}{es:List T}{s:fV}(t:DV lo hi h a b es s)(hl:l<=lo)(r:hi<=j)(f:∀e,(e=a\/e=b\/e∈es)->∀c,fq e=some c->h'.get c=h.get c):DV l j h' a b es s:=
 ⟨t.ga.mono λc d=>f a (.inl rfl) c d,t.gb.mono λc d=>f b (.inr (.inl rfl)) c d,t.el.imp_mem λm n u d=>⟨d.1.mono λc g=>f m (.inr (.inr n)) c g,λc g=>by
   have⟨v,w,o,q⟩:=d.2 c g;exact⟨B,B,o,q⟩⟩,λc d=>by have:=t.ba c d;exact⟨B,B,this.2.2⟩,λc d=>by have:=t.bb c d;exact⟨B,B⟩⟩
def DV.fzB{lo hi:Nat}{h:H}{a b:T}{es:List T}{s:fV}(t:DV lo hi h a b es s)(o:Nat->Prop)(n:∀m,(m=a\/m=b\/m∈es)->∀c,fq m=some c->o c):jw (FT h o 3) [C s.pC,a,b,C s.ej] s.cs:=
 .cons (iO ..) (.cons ((show qZ h 1 a (iz s.jN)from .inr t.ga).ft (d:=1) (Lq _) λc g=>n a (.inl rfl) c g)
  (.cons (t.gb.ft (λc g=>n b (.inr (.inl rfl)) c g) ((t.el.imp_mem (R':=λe j=>qZ h 1 e (iz j)/\e∈es) λe q j l=>⟨l.1,q⟩).em (f:=λj=>sl (iz j)) λe j l=>l.1.ft (d:=0) (Lq _) λc g=>n e (.inr (.inr l.2)) c g)) (.cons (iO ..) .nil)))
def EG{g j:Type}{l:g->j->Prop}:∀{e:List g} {f:List j},e.length=f.length->(∀(d:Nat) (a:g) (b:j),e[d]? =some a->f[d]? =some b->l a b)->jw l e f
 | [],[],_,_=> .nil
 |a::e,b::f,hl,h=> .cons (h 0 a b rfl rfl) (EG (by simpa using hl) λd o q m n=>h (d+1) o q (by simpa using m) (by simpa using n))
 | [],_::_,hl,_=>by simp at hl
 |_::_,[],hl,_=>by simp at hl
structure SJ(c:kP)(s:jD)(ch:iv)(i:iE)(S:gY)(k p n0:Nat)(cc cf ct:T)(es:List T)(lo hi:Nat->Nat)(a b:T)(el:List T)(t:fV)(h:H):Prop where
 ok:iQ 0 h
 z:p+1+1<=h.size
 n7:7<=n0
 np:n0<=p
 b0:h.get 0=some (X 7 0 [c.t])
 b1:h.get 1=some (X 7 2 [.eZ [sl (S.fI.map fa.t),C S.tx,sl (S.done.map T.ez),sl (S.ee.map ei.t),cc,cf,ct]])
 b2:h.get 2=some (X 2 0 [ch.t])
 b3:h.get 3=some (X 7 0 [.eZ [dV,C 0,dV,dV,dV,dV,dV]])
 b4:h.get 4=some (X 7 0 [.eZ [C 0,C 0,C 0,C 0,C 0,dV,dV]])
 bq:h.get (p+1)=some (X 6 1 [i.t])
 gc:∃l,Gr h cc 1 (iz l)/\l.length=s.cells.length
 gf:∃l,Gr h cf 1 (iz l)/\l.length=s.fH.length
 bc:∀c,fq cc=some c->7<=c/\c<n0
 bf:∀c,fq cf=some c->7<=c/\c<n0/\fq cc≠some c
 gt:Gr h ct 4 es
 l:es.length=s.ee.length
 m:∀j,j<s.ee.length->n0<=lo j/\hi j<=p
 d:∀i j,i<j->j<s.ee.length->hi i<=lo j
 bt:∀c,fq ct=some c->n0<=c/\c<p/\∀j,j<s.ee.length->¬(lo j<=c/\c<hi j)
 o:∀(j:Nat) (e:T) (u:fV),j≠k->es[j]? =some e->s.ee[j]? =some u->FT h (λc=>lo j<=c/\c<hi j) 4 e u.t
 hk:k<s.ee.length
 ek:∃x y,es[k]? =some (.eZ [C x,a,b,C y])
 tx:DV 7 h.size h a b el t
 xb:∀v,(v=a\/v=b\/v∈el)->∀c,fq v=some c->lo k<=c/\(c<hi k\/p+1<c)
section
variable {c:kP}{s:jD}{ch:iv}{i:iE}{S:gY}{k p n0:Nat}{cc cf ct:T}{es:List T}{lo hi:Nat->Nat}{a b:T}{el RV:List T}{t t':fV}{h h':H}
def SJ.gen(e:SJ c s ch i S k p n0 cc cf ct es lo hi a b el t h)(N:iQ 0 h')(Z:h.size<=h'.size)(u:∀c,c<h.size->c≠5->c≠p->fq cc≠some c->fq cf≠some c->fq a≠some c->fq b≠some c->h'.get c=h.get c)
 (F:∃r,Gr h' cc 1 (iz r)/\r.length=s.cells.length) (I:∃r,Gr h' cf 1 (iz r)/\r.length=s.fH.length) (O:DV 7 h'.size h' a b RV t') (Q:∀w,(w=a\/w=b\/w∈RV)->∀c,fq w=some c->lo k<=c/\(c<hi k\/p+1<c)):
 SJ c s ch i S k p n0 cc cf ct es lo hi a b RV t' h':=by
 have ab:=e.z;have L:=e.n7;have M:=e.np;have V:=e.m k e.hk;have v:∀q,q<7->fq cc≠some q/\fq cf≠some q/\fq a≠some q/\fq b≠some q:=λq g=>⟨λf=>by have:=e.bc q f;omega,λf=>by have:=e.bf q f;omega,λf=>by have:=(e.tx.ba q f).1;omega,λf=>by have:=(e.tx.bb q f).1;omega⟩;have n:∀q,q<7->q≠5->h'.get q=h.get q:=λq g J=>u q B J B (v q g).1 (v q g).2.1 (v q g).2.2.1 (v q g).2.2.2;have j:∀q,fq a=some q\/fq b=some q->lo k<=q/\(q<hi k\/p+1<q):=λq f=>f.elim (λf=>e.xb a (.inl rfl) q f) λf=>e.xb b (.inr (.inl rfl)) q f;refine⟨N,B,L,M,(n 0 B B).trans e.b0,(n 1 B B).trans e.b1,(n 2 B B).trans e.b2,(n 3 B B).trans e.b3,(n 4 B B).trans e.b4,?_,F,I,e.bc,e.bf,e.gt.mono λq f=>?_,e.l,e.m,e.d,e.bt,λi E P x K A=>?_,e.hk,e.ek,O,Q⟩
 ·refine(u (p+1) B B B (λf=>?_) (λf=>?_) (λf=>?_) λf=>?_).trans e.bq
  ·have:=e.bc _ f;omega
  ·have:=e.bf _ f;omega
  ·have:=j _ (.inl f);omega
  ·have:=j _ (.inr f);omega
 ·have D:=e.bt q f;have W:=D.2.2 k e.hk;refine u q B B B (λf=>?_) (λf=>?_) (λf=>?_) λf=>?_
  ·have:=e.bc _ f;omega
  ·have:=e.bf _ f;omega
  ·have:=j _ (.inl f);omega
  ·have:=j _ (.inr f);omega
 ·have y:i<s.ee.length:=(List.getElem?_eq_some_iff.1 A).1;have U:=e.m i y;have R:hi i<=lo k\/hi k<=lo i:=by
   rcases Nat.lt_or_gt_of_ne x with q|q
   ·exact .inl (e.d i k q e.hk)
   ·exact .inr (e.d k i q y)
  refine(e.o i E P x K A).mono λq g=>⟨g,u q B B B (λf=>?_) (λf=>?_) (λf=>?_) λf=>?_⟩
  ·have:=e.bc _ f;omega
  ·have:=e.bf _ f;omega
  ·have:=j _ (.inl f);omega
  ·have:=j _ (.inr f);omega
def SJ.mono(d:SJ c s ch i S k p n0 cc cf ct es lo hi a b el t h)(y:iQ 0 h')(l:h.size<=h'.size)(g:∀c,c<h.size->c≠5->c≠p->h'.get c=h.get c):SJ c s ch i S k p n0 cc cf ct es lo hi a b el t h':=by
 have J:=d.z;have F:=d.n7;have I:=d.np;have E:=d.m k d.hk;have⟨l1,q,n⟩:=d.gc;have⟨l2,r,o⟩:=d.gf;refine d.gen y l (λc u v w _ _ _ _=>g c u v w) ⟨l1,q.mono λe f=>?_,n⟩ ⟨l2,r.mono λe f=>?_,o⟩ (d.tx.O8 (ax _) l λD j e f=>?_) d.xb
 ·have:=d.bc e f;exact g e B B B
 ·have:=d.bf e f;exact g e B B B
 ·have:=d.xb D j e f;have x:e<h.size:=by
   rcases j with rfl|rfl|j
   ·exact(d.tx.ba e f).2.1
   ·exact(d.tx.bb e f).2
   ·have⟨_,A⟩:=d.tx.el.left j;exact(A.2 e f).2.1
  exact g e x B B 
def SJ.cell(e:SJ c s ch i S k p n0 cc cf ct es lo hi a b el t h){f n q:Nat}{o:Bool}{u:List T}(v:fq cc=some f)(w:h.get f=some ⟨1,n,q,o,false,u⟩)(g:Nat)(j:Int):SJ c s ch i S k p n0 cc cf ct es lo hi a b el t (fJ h f ⟨1,n,q+1,o,false,u.set g (C j)⟩)/\∀d,d=5\/d=p->(fJ h f ⟨1,n,q+1,o,false,u.set g (C j)⟩).get d=h.get d:=by
 have L:=e.n7;have M:=e.np;have J:=e.bc f v;have K:=e.m k e.hk;have⟨l1,A,y⟩:=e.gc;have⟨l2,D,z⟩:=e.gf;have l:∀d,(fJ h f ⟨1,n,q+1,o,false,u.set g (C j)⟩).get d=if d=f then some ⟨1,n,q+1,o,false,u.set g (C j)⟩else h.get d:=λd=>eG w _ d;refine⟨e.gen (e.ok.put _ _) (by rw[iy];exact ax _) (λd _ _ _ E _ _ _=>(l d).trans (Z λr=>E (by rw[r];exact v))) ⟨l1.set g j,?_,by simpa using y⟩ ⟨l2,D.mono λd r=>(l d).trans (Z λx=>(e.bf d r).2.2 (by rw[x];exact v)),z⟩ (e.tx.O8 (ax _) (by rw[iy];exact ax _) λI F d r=>(l d).trans (Z λx=>?_)) e.xb,λd hr=>(l d).trans (Z B)⟩
 ·have:=A.setAt v w g (C j) ((l f).trans (au rfl));simpa[iz,aW]using this
 ·have:=e.xb I F d r;omega
def SJ.fut(e:SJ c s ch i S k p n0 cc cf ct es lo hi a b el t h){f n q:Nat}{o:Bool}{u:List T}(v:fq cf=some f)(w:h.get f=some ⟨1,n,q,o,false,u⟩)(g:Nat)(j:Int):SJ c s ch i S k p n0 cc cf ct es lo hi a b el t (fJ h f ⟨1,n,q+1,o,false,u.set g (C j)⟩)/\∀d,d=5\/d=p->(fJ h f ⟨1,n,q+1,o,false,u.set g (C j)⟩).get d=h.get d:=by
 have L:=e.n7;have M:=e.np;have y:=e.bf f v;have K:=e.m k e.hk;have⟨l1,D,z⟩:=e.gc;have⟨l2,E,A⟩:=e.gf;have l:∀d,(fJ h f ⟨1,n,q+1,o,false,u.set g (C j)⟩).get d=if d=f then some ⟨1,n,q+1,o,false,u.set g (C j)⟩else h.get d:=λd=>eG w _ d;refine⟨e.gen (e.ok.put _ _) (by rw[iy];exact ax _) (λd _ _ _ _ F _ _=>(l d).trans (Z λr=>F (by rw[r];exact v))) ⟨l1,D.mono λd r=>(l d).trans (Z λx=>y.2.2 (by rw[<-x];exact r)),z⟩ ⟨l2.set g j,?_,by simpa using A⟩ (e.tx.O8 (ax _) (by rw[iy];exact ax _) λJ I d r=>(l d).trans (Z λx=>?_)) e.xb,λd hr=>(l d).trans (Z B)⟩
 ·have:=E.setAt v w g (C j) ((l f).trans (au rfl));simpa[iz,aW]using this
 ·have:=e.xb J I d r;omega
end
def yN{d k:Int}(h:oM d=k)(f:k≠0):(k=3->d=6\/d=7)/\(k=4->d=8\/d=9)/\(k=5->d=10)/\(k=22->d=26)/\(k=23->d=27):=by
 have g:6<=d/\d<=28:=by
  unfold oM at h;split at h
  ·exact absurd h.symm f
  ·omega
 have e:d=6\/d=7\/d=8\/d=9\/d=10\/d=11\/d=12\/d=13\/d=14\/d=15\/d=16\/d=17\/d=18\/d=19\/d=20\/d=21\/d=22\/d=23\/d=24\/d=25\/d=26\/d=27\/d=28:=B;rcases e with rfl|rfl|rfl|rfl|rfl|rfl|rfl|rfl|rfl|rfl|rfl|rfl|rfl|rfl|rfl|rfl|rfl|rfl|rfl|rfl|rfl|rfl|rfl<;>simp[oM,zG]at h<;>omega
def Mn(p:Nat)(d:iM):Prop:=Y d 3 (.fc 0 0 0 0)/\Y d 4 (.fc 1 0 0 0)/\Y d 5 (.fc 2 0 0 0)/\Y d 6 (.fc 3 0 0 0)/\Y d 7 (.fc 4 0 0 0)/\Y d 9 (.fc 5 0 0 0)/\Y d 14 (.fc p 0 0 0)/\Y d 15 (.fc (p+1) 0 0 0)
def Ev9(d:fR)(h:H):Prop:=∃e f,h.get 5=some (X 7 f [fR.t ⟨d.eJ,d.fh,d.obj,e,d.jY,d.nQ,d.wm⟩])
def Th9(p:Nat)(a b:T)(e f:Int)(h:H):Prop:=∃d,h.get p=some (X 4 d [.eZ [C e,a,b,C f]])
def SJ.QC{c:kP}{s:jD}{ch:iv}{i:iE}{S:gY}{k p n0:Nat}{cc cf ct:T}{es:List T}{lo hi:Nat->Nat}{a b:T}{el:List T}{t:fV}{h:H}(e:SJ c s ch i S k p n0 cc cf ct es lo hi a b el t h){u:jK}(j:h.get 5=some u){l m:Int}(ht:Th9 p a b l m h)(d:fR)(f:Int)(g:Nat):
 SJ c s ch i S k p n0 cc cf ct es lo hi a b el t (fJ h 5 (X 7 g [fR.t ⟨d.eJ,d.fh,d.obj,f,d.jY,d.nQ,d.wm⟩]))/\Ev9 d (fJ h 5 (X 7 g [fR.t ⟨d.eJ,d.fh,d.obj,f,d.jY,d.nQ,d.wm⟩]))/\Th9 p a b l m (fJ h 5 (X 7 g [fR.t ⟨d.eJ,d.fh,d.obj,f,d.jY,d.nQ,d.wm⟩])):=by
 have v:=e.n7;have w:=e.np;obtain⟨r,o⟩:=ht;exact⟨e.mono (e.ok.put _ _) (by rw[iy];exact ax _) λq _ n _=>(eG j _ q).trans (Z n),⟨f,g,(eG j _ 5).trans (au rfl)⟩,⟨r,(eG j _ p).trans ((Z B).trans o)⟩⟩
def ai4(p:Nat)(ct:T)(m:Int)(h:H):Prop:=∃j d e l g n,h.get p=some (X 4 n [.eZ [C j,d,e,C l]])/\d.jc=true/\d.cells=[d]/\e.jc=true/\e.cells=[e]/\jw (FT h (λf=>f<h.size/\f≠p/\7<=f/\fq ct≠some f) 3) [C j,d,e,C l] (fV.cs g)/\ZE 1000000 g/\(g.ej=m+1\/g.ej=0)
def KL:pM prog cx 130 (λa:kP×jD×iv=>[a.1.t,a.2.1.t,a.2.2.t]) (λa=>(∀x∈a.1.ee,x.j3.length<=10000001)/\StI a.2.1/\evB 999000 a.2.1) (λa=>ad3 a.2.1):=by
 refine Bg (tb:=⟨pt [(160,CU.kc),(53,tM)],ht [(168,km jD dU Tg),(169,km ISe SQ Fq)]⟩) jv jl (jF 12259964349774246101165194645239424850975965214878597119 [(41,[(1,2)])] func130) (λ_=>100) (λa b h=>by simp at h;exact aD (kP.inj h.1) (aD (jD.inj h.2.1) (iv.inj h.2.2))) G nl9 ?_;rintro⟨c,s,ch⟩ ⟨gi,Q,gg⟩ bH hh;simp only at gi Q gg;simp at hh;obtain⟨j5,aN,aX⟩:=hh;have kX:ad0 1000000 s:=λt ht bC hl=>((Q.t t ht).tn bC hl).1;obtain⟨_,⟨y,hJ,rfl,kC,hA⟩,gS⟩:=CU.use (c,s,ch.eJ) ⟨gi,kX⟩;simp only at gS hA;have hy:ad3 s (.tuple [jD.t ⟨⟨[],0,[],[]⟩,[],[],[]⟩,fR.t ⟨0,0,0,0,0,[],[]⟩,.ez false]):=⟨_,_,_,rfl,⟨G,G⟩,G⟩;simp[f130,j5,aN,aX,gS];cases hJ with
 |false=>
  simp;exact hy
 |true=>
 have⟨t,x,i,ap⟩:=hA rfl;have⟨o0,o2⟩:=LR ap.f.v;have kK:Qt s.gu:=⟨by have:=Q.l;omega,by have:=Q.l;omega,by have:=Q.l;omega,λbC hl=>by have:=Q.r.len Q.a bC hl;omega,Q.a⟩;have gP:rl prog cx ⟨pt [(160,CU.kc),(53,tM)],ht [(168,km jD dU Tg),(169,km ISe SQ Fq)]⟩ 53 [c.fM.t,s.gu.t,C ch.eJ,C y.fh,C y.obj,C ch.ry]=some (A8 (c.fM,s.gu,ch.eJ,y.fh,y.obj,ch.ry)):=
  iN G H6 (c.fM,s.gu,ch.eJ,y.fh,y.obj,ch.ry) ⟨dS,kK⟩
 cases fY:iV c.fM s.gu ch.eJ y.fh y.obj with
 |false=>
  simp[gP,A8,fY];exact hy
 |true=>
 simp[gP,A8,fY];generalize kk:fZ c.fM s.gu ch.eJ y.fh y.obj ch.ry=h3 at*
 obtain⟨S,w⟩:=h3;simp;have hl:=Q.l;generalize bX:H.cons _ _=b8;have hI:iQ 0 b8:=by rw[<-bX];exact⟨G,G,G⟩
 have mq:b8.size=7:=by rw[<-bX];rfl
 have lW:b8.get 0=some (X 7 0 [c.t]):=by rw[<-bX];simp
 have lX:b8.get 1=some (X 7 0 [s.t]):=by rw[<-bX];simp
 have l7:b8.get 2=some (X 2 0 [ch.t]):=by rw[<-bX];simp
 have l9:b8.get 3=some (X 7 0 [.eZ [dV,C 0,dV,dV,dV,dV,dV]]):=by rw[<-bX];simp
 have mb:b8.get 4=some (X 7 0 [.eZ [C 0,C 0,C 0,C 0,C 0,dV,dV]]):=by rw[<-bX];simp
 have mi:b8.get 5=some (X 7 1 [y.t]):=by rw[<-bX];simp
 have mj:b8.get 6=some (X 4 1 [S.t]):=by rw[<-bX];simp
 clear bX;refine jB T4 G s ⟨rfl,hI,⟨rfl,hI,B,B,B,λbC q=>by have:=Q.r.len Q.a bC q;omega⟩,B,B,B,λu ed=>⟨by have:=(Q.t u ed).rl;omega,by have:=(Q.t u ed).tl;omega,λbC q=>((Q.t u ed).tn bC q).1⟩⟩ ?_;rintro _ dd ⟨m0,m1,m2,cc,cf,ct,es,lo,hi,n0,rfl,O⟩;have mm:=O.nb.ok.sz;have hX:=O.z;rw[mq]at mm hX;have a1:=(O.nb.get 1 B).trans lX;have hZ:=(O.nb.get 6 B).trans mj;have a2:=(O.nb.get 2 B).trans l7;have a0:=(O.nb.get 0 B).trans lW;have⟨eL,ni,eM,c7,c9,nj⟩:=O.k0;have p1:∀D,(fJ dd 1 D).get 1=some D:=λD=>(eG a1 D _).trans (au rfl);have p6:∀D,(fJ dd 1 D).get 6=dd.get 6:=λD=>(eG a1 D _).trans (Z B);simp[a1,fG,p1,p6,hZ];generalize eA:fJ (fJ dd 1 _) 1 _=F;have o3:F.size=dd.size:=by rw[<-eA];simp
 have k9:iQ 0 dd:=⟨O.nb.ok.hp,O.nb.ok.low,ay _⟩;have okB:iQ 0 F:=by rw[<-eA];exact(k9.put _ _).put _ _
 have hM:=(show F.get 1=some (X 7 2 [.eZ [sl (S.fI.map fa.t),C S.tx,sl (S.done.map T.ez),sl (S.ee.map ei.t),cc,cf,ct]])by rw[<-eA];exact(eG (p1 _) _ _).trans (au rfl));have c1:∀k,k≠1->F.get k=dd.get k:=λk b9=>by rw[<-eA,eG (p1 _),Z b9,eG a1,Z b9]
 clear eA p1 p6;have hL:=(c1 0 B).trans a0;have hN:=(c1 2 B).trans a2;have lu:=(c1 5 B).trans ((O.nb.get 5 B).trans mi);have lm:=(c1 3 B).trans ((O.nb.get 3 B).trans l9);have lp:=(c1 4 B).trans ((O.nb.get 4 B).trans mb);have U:=O.th.mono (h':=F) B λk b9 _=>c1 k B;have b9:=ap.n;rw[<-ap.f.th]at b9;have⟨e4,an⟩:=fQ.1 b9;have cX:=ap.ht;have fX:∃gV,es[ch.eJ.toNat]? =some gV:=⟨_,aB (by rw[U.l];exact an)⟩;obtain⟨gV,eU⟩:=fX;obtain⟨a,b,el,rfl,fb⟩:=U.e _ _ _ eU cX;have⟨L,gX,hV,ext,hW,t1,t2,t3,t4⟩:=U.g.Bd (te:=Oz) rfl (i:=ch.eJ.toNat) (by rw[U.l];exact an);rw[show es[ch.eJ.toNat]'(by rw[U.l];exact an)=El t a b by rw[aB (by rw[U.l];exact an)]at eU;simpa using eU]at t4;have h7:=okB.low;have mx:∀k,k<7->(k=F.size)=False:=λk b9=>by simp;omega
 have pd:∀k,k<7->(k=F.size+1)=False:=λk b9=>by simp;omega
 have a7:=ap.hx;have hv:=ap.hi;have⟨lg,oA,oB,oD⟩:=ap.f.t _ _ _ cX a7;have ly:=fU lg;simp[hL,hM,hN,t2,t3,t4,El,h7,fU e4,mx,a7,hv,ly];have n8:F.size<F.size+1:=B;generalize ec:fJ ((F.cons _).cons _) (F.size+1) _=bu;have o4:bu.size=F.size+1+1:=by rw[<-ec,iy];rfl
 have la:iQ 0 bu:=by rw[<-ec];exact((okB.cons _).cons _).put _ _
 have hR:bu.get F.size=some (X 4 1 [.eZ [C t.pC,a,b,C t.ej]]):=by rw[<-ec,ou ((okB.cons _).cons _).hp (by show _<F.size+1+1;omega),Z B,fk,Z (by show¬_=F.size+1;omega),fk,au rfl]
 have lw:bu.get (F.size+1)=some (X 6 1 [i.t]):=by rw[<-ec,ou ((okB.cons _).cons _).hp (by show _<F.size+1+1;omega),au rfl]
 have hQ:∀k,k<F.size->bu.get k=F.get k:=λk b9=>by
  rw[<-ec,ou ((okB.cons _).cons _).hp (by show _<F.size+1+1;omega),Z B,fk,Z (by show¬_=F.size+1;omega),fk,Z B]
 clear ec;have r5:=(hQ 5 B).trans lu;have jj:∀D,(fJ bu 5 D).get 5=some D:=λD=>(eG r5 D _).trans (au rfl);simp[hR,r5,qm,jj];have lc:iQ 0 (fJ bu 5 (X 7 2 [fR.t ⟨y.eJ,y.fh,y.obj,w,y.jY,y.nQ,y.wm⟩])):=la.put _ _;have eO:∀k,(fJ bu 5 (X 7 2 [fR.t ⟨y.eJ,y.fh,y.obj,w,y.jY,y.nQ,y.wm⟩])).get k=_:=λk=>eG r5 _ k;have pc:(fJ bu 5 (X 7 2 [fR.t ⟨y.eJ,y.fh,y.obj,w,y.jY,y.nQ,y.wm⟩])).size=bu.size:=iy ..;generalize fJ bu 5 (X 7 2 [fR.t ⟨y.eJ,y.fh,y.obj,w,y.jY,y.nQ,y.wm⟩])=bA at*
 have nA:ch.eJ.toNat<s.ee.length:=an;have⟨oC,oW,n9,_,gB,gD,_,gE,_,_,hU,_⟩:=Lr ap.f ap.n;rw[cX]at gB;rw[a7]at gD;simp only[aw]at gB gD;subst gB;subst gD;rw[hv]at gE;simp only[aw]at gE;subst gE;have eC:∀K:Int,y.fh=K->K≠1->K≠17->K≠0->oM i.op=K:=λK aN aX bs cL=>by
  rcases ap.k with q|q|q
  ·omega
  ·omega
  ·omega
 have gd:=fY;unfold iV at gd;simp only[az]at gd;have eX:=gd.1.2;have hq:y.fh=3\/y.fh=4->ju y.obj s.cells.length=true:=λq=>by
  rw[ap.f.cl];unfold j8 at eX;rcases q with q|q<;>simpa[q]using eX
 have hs:y.fh=22\/y.fh=23->ju y.obj s.fH.length=true:=λq=>by
  rw[ap.f.fu];unfold j8 at eX;rcases q with q|q<;>simpa[q]using eX
 have hO:y.fh=3\/y.fh=23\/y.fh=5->0<=i.a/\i.a<x.jN:=λq=>by
  refine hU _ ?_;unfold jP;rcases q with q|q|q
  ·rcases(yN (eC 3 q B B B) B).1 rfl with k|k<;>simp[k]
  ·simp[(yN (eC 23 q B B B) B).2.2.2.2 rfl]
  ·simp[(yN (eC 5 q B B B) B).2.2.1 rfl]
 have hP:y.fh=4\/y.fh=22->0<=i.b/\i.b<x.jN:=λq=>by
  refine hU _ ?_;unfold jP;rcases q with q|q
  ·rcases(yN (eC 4 q B B B) B).2.1 rfl with k|k<;>simp[k]
  ·simp[(yN (eC 22 q B B B) B).2.2.2.1 rfl]
 have W:SJ c s ch i S ch.eJ.toNat F.size n0 cc cf ct es lo hi a b el t bA:=by
  have b6:∀k,k<F.size->k≠5->bA.get k=F.get k:=λk aN aX=>(eO k).trans ((Z aX).trans (hQ k aN));have og:=U.m _ an;have k7:n0<=F.size:=by have:=O.zn;omega
  refine⟨lc,B,hX,k7,(b6 0 B B).trans hL,(b6 1 B B).trans hM,(b6 2 B B).trans hN,(b6 3 B B).trans lm,(b6 4 B B).trans lp,?_,
   ⟨_,O.gc.mono λq x=>?_,G⟩,⟨_,O.gf.mono λq x=>?_,G⟩,λq x=>?_,λq x=>?_,U.g.mono λq x=>?_,U.l,U.m,U.d,λq x=>?_,λj y u eV fX ed=>?_,an,⟨_,_,eU⟩,fb.O8 B B λbg e0 q x=>?_,λbg e0 q x=>?_⟩
  ·exact(eO _).trans ((Z B).trans lw)
  ·have:=O.bc q x;exact(b6 q B B).trans (c1 q B)
  ·have:=O.bf q x;exact(b6 q B B).trans (c1 q B)
  ·have:=O.bc q x;omega
  ·have:=O.bf q x;exact⟨B,this.2.1,this.2.2⟩
  ·have⟨_,_,_,_,fv,_⟩:=U.g.box x;have:=(U.c q x).1;exact b6 q (H.gh fv) B
  ·have⟨_,_,_,_,fv,_⟩:=U.g.box x;exact⟨(U.c q x).1,H.gh fv,(U.c q x).2⟩
  ·obtain⟨fi,fl,RV,rfl,lB⟩:=U.e j y u fX ed;have k4:=U.m j (List.getElem?_eq_some_iff.1 ed).1;exact .inr (.inr ⟨_,_,rfl,(lB.mono (h':=bA) (ax _) (ax _) λq aN aX=>b6 q B B).fz _ λq aN aX=>⟨aN,aX⟩,rfl⟩)
  all_goals
   have hn:lo ch.eJ.toNat<=q/\q<hi ch.eJ.toNat:=by
    rcases e0 with rfl|rfl|e0
    ·have:=fb.ba q x;omega
    ·exact fb.bb q x
    ·have⟨_,A⟩:=fb.el.left e0;have:=A.2 q x;exact⟨this.1,this.2.1⟩
  ·exact b6 q B B
  ·exact⟨hn.1,.inl hn.2⟩
 refine Mh (λbH h=>Mn F.size bH/\(∃gw,Y bH 16 (C gw))/\SJ c s ch i S ch.eJ.toNat F.size n0 cc cf ct es lo hi a b el t h/\Ev9 y h/\Th9 F.size a b t.pC t.ej h) ?_ ?_
 ·have al:=(eO 5).trans (au rfl);have eb:=(eO F.size).trans ((Z B).trans hR);have eI:Ev9 y bA:=⟨w,2,al⟩;have cb:Th9 F.size a b t.pC t.ej bA:=⟨1,eb⟩;cases m3:decide (y.fh=1)with
  |true=>
   simp[eb,Mn];exact⟨W,eI,cb⟩
  |false=>
  cases cp:decide (y.fh=16)with
  |true=>
   simp[cp,eb,Mn];exact⟨W,eI,cb⟩
  |false=>
  cases c4:decide (y.fh=2)with
  |true=>
   simp[cp,c4,eb,Mn];exact⟨W,eI,cb⟩
  |false=>
  cases c6:decide (y.fh=3)with
  |true=>
   have⟨l1,b7,ca⟩:=W.gc;have bB:=fQ.1 (hq (.inl (by simpa using c6)));have⟨p1,ae,bN⟩:=(show qZ bA 1 cc (iz l1)from .inr b7).idx (te:=IG) rfl rfl (i:=y.obj.toNat) (x:= C l1[y.obj.toNat]) (by simp[ca,bB.2]) rfl;simp[cp,c4,c6,al,W.b1,fU bB.1,ae,bN,Mn];exact W.QC al cb y _ _
  |false=>
  cases dv:decide (y.fh=23)with
  |true=>
   have⟨l1,b7,ca⟩:=W.gf;have bB:=fQ.1 (hs (.inr (by simpa using dv)));have⟨p1,ae,bN⟩:=(show qZ bA 1 cf (iz l1)from .inr b7).idx (te:=IG) rfl rfl (i:=y.obj.toNat) (x:= C l1[y.obj.toNat]) (by simp[ca,bB.2]) rfl;simp[cp,c4,c6,dv,al,W.b1,fU bB.1,ae,bN,Mn];exact W.QC al cb y _ _
  |false=>
  have fB:qZ bA 1 a (iz t.jN):= .inr W.tx.ga;have e9:∀x D:Int,mS (C x) 0 [C D]=some (C D):=λx D=>rfl;cases ea:decide (y.fh=4)with
  |true=>
   have gz:=hP (.inl (by simpa using ea));have bB:=fQ.1 (hq (.inr (by simpa using ea)));have⟨p1,ae,bN⟩:=fB.idx (te:=IG) rfl rfl (i:=i.b.toNat) (x:= C t.jN[i.b.toNat]) (by simp[show i.b.toNat<t.jN.length by omega]) rfl;have⟨a8,bi,t5⟩:=W.QC al cb y t.jN[i.b.toNat] 3;have c9:=(eG al (X 7 3 [fR.t ⟨y.eJ,y.fh,y.obj,t.jN[i.b.toNat],y.jY,y.nQ,y.wm⟩]) 5).trans (au rfl);simp[cp,c4,c6,dv,ea,al,eb,W.bq,fU gz.1,ae,bN,Mn];generalize fJ bA 5 (X 7 3 [fR.t ⟨y.eJ,y.fh,y.obj,t.jN[i.b.toNat],y.jY,y.nQ,y.wm⟩])=a6 at*
   have⟨l1,b7,ca⟩:=a8.gc;have⟨q,aE,lF,gZ,lS,gn,gv,eE,eF⟩:=b7.Bd (te:=IG) rfl (i:=y.obj.toNat) (by simpa[ca]using bB.2);simp at eF;have⟨gm,eu⟩:=a8.cell gn eE y.obj.toNat t.jN[i.b.toNat];simp[a8.b1,c9,fU bB.1,gv,eE,eF,e9];obtain⟨gI,gM,gk⟩:=bi;obtain⟨eh,dk⟩:=t5;exact⟨gm,⟨gI,gM,(eu 5 (.inl rfl)).trans gk⟩,eh,(eu _ (.inr rfl)).trans dk⟩
  |false=>
  cases er:decide (y.fh=22)with
  |true=>
   have gz:=hP (.inr (by simpa using er));have bB:=fQ.1 (hs (.inl (by simpa using er)));have⟨p1,ae,bN⟩:=fB.idx (te:=IG) rfl rfl (i:=i.b.toNat) (x:= C t.jN[i.b.toNat]) (by simp[show i.b.toNat<t.jN.length by omega]) rfl;have⟨a8,bi,t5⟩:=W.QC al cb y t.jN[i.b.toNat] 3;have c9:=(eG al (X 7 3 [fR.t ⟨y.eJ,y.fh,y.obj,t.jN[i.b.toNat],y.jY,y.nQ,y.wm⟩]) 5).trans (au rfl);simp[cp,c4,c6,dv,ea,er,al,eb,W.bq,fU gz.1,ae,bN,Mn];generalize fJ bA 5 (X 7 3 [fR.t ⟨y.eJ,y.fh,y.obj,t.jN[i.b.toNat],y.jY,y.nQ,y.wm⟩])=a6 at*
   have⟨l1,b7,ca⟩:=a8.gf;have⟨q,aE,lF,gZ,lS,gn,gv,eE,eF⟩:=b7.Bd (te:=IG) rfl (i:=y.obj.toNat) (by simpa[ca]using bB.2);simp at eF;have⟨gm,eu⟩:=a8.fut gn eE y.obj.toNat t.jN[i.b.toNat];simp[a8.b1,c9,fU bB.1,gv,eE,eF,e9];obtain⟨gI,gM,gk⟩:=bi;obtain⟨eh,dk⟩:=t5;exact⟨gm,⟨gI,gM,(eu 5 (.inl rfl)).trans gk⟩,eh,(eu _ (.inr rfl)).trans dk⟩
  |false=>
  cases fs:decide (y.fh=5)with
  |false=>
   simp[cp,c4,c6,dv,ea,er,fs,Mn];exact⟨W,eI,cb⟩
  |true=>
   have e8:=hO (.inr (.inr (by simpa using fs)));have⟨p1,ae,bN⟩:=fB.idx (te:=IG) rfl rfl (i:=i.a.toNat) (x:= C t.jN[i.a.toNat]) (by simp[show i.a.toNat<t.jN.length by omega]) rfl;have⟨a8,bi,t5⟩:=W.QC al cb y 1 3;have c9:=(eG al (X 7 3 [fR.t ⟨y.eJ,y.fh,y.obj,1,y.jY,y.nQ,y.wm⟩]) 5).trans (au rfl);simp[cp,c4,c6,dv,ea,er,fs,al,Mn];generalize fJ bA 5 (X 7 3 [fR.t ⟨y.eJ,y.fh,y.obj,1,y.jY,y.nQ,y.wm⟩])=a6 at*
   have⟨p1,ae,bN⟩:=(show qZ a6 1 a (iz t.jN)from .inr a8.tx.ga).idx (te:=IG) rfl rfl (i:=i.a.toNat) (x:= C t.jN[i.a.toNat]) (by simp[show i.a.toNat<t.jN.length by omega]) rfl;obtain⟨eh,dk⟩:=t5;have⟨hC,lE,t6⟩:=a8.QC c9 ⟨eh,dk⟩ y 0 4;have h6:=hC.bq;simp[dk,a8.bq,fU e8.1,ae,bN];refine fN (λq=>?_) (λq=>?_)
   ·simp[c9,h6];exact⟨hC,lE,t6⟩
   ·simp;exact⟨a8,bi,eh,dk⟩
 ·rintro bH h ⟨⟨bs,cL,a6,bS,bT,bW,bp,cF⟩,⟨dm,eR⟩,E,⟨bg,bi,bn⟩,cd,aE⟩;simp[bW,bn];have ov:=E.ok;refine lV (λbH h=>Mn F.size bH/\(∃gw,Y bH 16 (C gw))/\∃RV t',t'.pC=t.pC/\t'.ej=t.ej/\ZE 1000000 t'/\SJ c s ch i S ch.eJ.toNat F.size n0 cc cf ct es lo hi a b RV t' h/\Ev9 y h/\Th9 F.size a b t.pC t.ej h) (λP=>?_) (λP=>?_) ?_
  ·have e8:=hO (by simpa[or_assoc]using(by simpa using P:y.fh=3\/y.fh=23).elim .inl λq=> .inr (.inl q));have nB:el.length=t.lr.length:=E.tx.el.length;have j6:i.a.toNat<t.jN.length:=B;have kb:i.a.toNat<el.length:=B;have⟨av,ic,lG,ie,lT,eB,kd,fS,hj⟩:=E.tx.ga.Bd (te:=IG) rfl (i:=i.a.toNat) (by simpa using j6);simp at hj;have e9:∀x D:Int,mS (C x) 0 [C D]=some (C D):=λx D=>rfl;have k6:=E.n7;have oj:=E.np;have n5:=E.z;have ho:=E.tx.ba av eB;have n1:=E.xb a (.inl rfl) av eB;have nE:=E.m _ E.hk;simp[bW,bp,cF,aE,bn,E.bq,fU e8.1,kd,fS,hj,e9];generalize k3:jK.mk 1 ic (lG+1) ie false (lT.set i.a.toNat (C bg))=dn at*
   have eo:∀A,(fJ h av dn).get A=if A=av then some dn else h.get A:=λA=>eG fS dn A;have k8:iQ 0 (fJ h av dn):=E.ok.put _ _;have o1:(fJ h av dn).size=h.size:=iy ..;have h8:=(eo F.size).trans ((Z B).trans aE);have h9:=(eo (F.size+1)).trans ((Z B).trans E.bq);have m5:=(eo 5).trans ((Z B).trans bn);generalize nw:fJ h av dn=R at*
   have eP:Gr R b 1 el:=E.tx.gb.mono λA hr=>(eo A).trans (Z λx=>ho.2.2 (by rw[<-x];exact hr));have⟨aA,et,fe,eK,ff,de,kn,eS,fW⟩:=(eP.mono (h':=R.cons (X 1 0 [C t.ej])) λA hr=>by rw[fk,Z (by have:=(E.tx.bb A hr).2;omega)]).Bd (te:=pI) rfl (i:=i.a.toNat) kb;have⟨m4,kB,lv⟩:=E.tx.el.get (aB (show i.a.toNat<t.lr.length by omega));have lx:=E0 (x:= .arr R.size 0 0 1 false) lv.1.na;replace fW:=fW.trans ((aB _).symm.trans kB);have kp:b= .arr aA et 0 el.length false:=by
    have⟨_,_,_,_,q,y⟩:=(eP.mono (h':=R.cons (X 1 0 [C t.ej])) λA hr=>by rw[fk,Z (by have:=(E.tx.bb A hr).2;omega)]).box de;rw[eS]at q;simp at q;rw[y,q.1]
   simp[bp,cF,eR,h8,h9,fU e8.1,kn,eS,fW,lx];have nu:=E.tx.bb aA de;have n2:=E.xb b (.inr (.inl rfl)) aA de;have kg:av≠aA:=λq=>ho.2.2 (by rw[q];exact de);have lb:iQ 0 (fJ (R.cons (X 1 0 [C t.ej])) aA ⟨1,et,fe+1,eK,false,ff.set i.a.toNat (.arr R.size 0 0 1 false)⟩):=(k8.cons _).put _ _;have pb:(fJ (R.cons (X 1 0 [C t.ej])) aA ⟨1,et,fe+1,eK,false,ff.set i.a.toNat (.arr R.size 0 0 1 false)⟩).size=h.size+1:=by rw[iy];show R.size+1=_;omega
   have eH:∀A,(fJ (R.cons (X 1 0 [C t.ej])) aA ⟨1,et,fe+1,eK,false,ff.set i.a.toNat (.arr R.size 0 0 1 false)⟩).get A=if A=aA then some ⟨1,et,fe+1,eK,false,ff.set i.a.toNat (.arr R.size 0 0 1 false)⟩else if A=R.size then some (X 1 0 [C t.ej])else if A=av then some dn else h.get A:=λA=>(eG eS _ A).trans (by rw[fk,eo]);generalize fJ (R.cons _) aA _=fL at*
   have jZ:=(eP.mono (h':=R.cons (X 1 0 [C t.ej])) λA hr=>by rw[fk,Z (by have:=(E.tx.bb A hr).2;omega)]).setAt de eS i.a.toNat (.arr R.size 0 0 1 false) (h':=fL) ((eH aA).trans (au rfl));have jC:=E.tx.ga.setAt eB fS i.a.toNat (C bg) (h':=fL) ((eH av).trans ((Z kg).trans ((Z B).trans ((au rfl).trans (by rw[k3])))));have ds:∀A,A<h.size->A≠av->A≠aA->fL.get A=h.get A:=λA aN aX bs=>(eH A).trans ((Z bs).trans ((Z B).trans (Z aX)));have ia:∀A,fq a=some A->A=av:=λA hr=>by rw[eB]at hr;simpa using hr.symm
   have ib:∀A,fq b=some A->A=aA:=λA hr=>by rw[de]at hr;simpa using hr.symm
   have nv:=gg t (aC cX);have gj:=Q.t t (aC cX);have e7:∀A,fq a≠some A->fq b≠some A->A≠av/\A≠aA:=λA aN aX=>⟨λx=>aN (by rw[x];exact eB),λx=>aX (by rw[x];exact de)⟩;refine⟨by simp[Mn,bs,cL,a6,bS,bT,bW,bp,cF],el.set i.a.toNat (.arr R.size 0 0 1 false),⟨t.pC,t.jN.set i.a.toNat bg,t.lr.set i.a.toNat [t.ej],t.ej⟩,rfl,rfl,⟨by simpa using gj.rl,by simpa using gj.tl,λbC hl=>?_⟩,
    E.gen lb B (λA aN aX bs _ _ bS bT=>ds A aN (e7 A bS bT).1 (e7 A bS bT).2) ?_ ?_ ⟨by simpa[iz,aW]using jC,jZ,E.tx.el.set i.a.toNat ⟨.inr ?_,λA hr=>?_⟩ λy bC q=>⟨q.1.mono λA hr=>?_,λA hr=>?_⟩,λA hr=>?_,λA hr=>?_⟩ λw hw A hr=>?_,⟨bg,bi,(ds 5 B B B).trans bn⟩,cd,(ds _ B B B).trans aE⟩
   ·rcases cH hl with q|rfl
    ·exact gj.tn bC q
    ·exact⟨G,λx a7=>by simp at a7;subst a7;omega⟩
   ·have⟨l1,eL,ae⟩:=E.gc;exact⟨l1,eL.mono λA hr=>by have:=E.bc A hr;exact ds A B B B,ae⟩
   ·have⟨l1,eL,ae⟩:=E.gf;exact⟨l1,eL.mono λA hr=>by have:=E.bf A hr;exact ds A B B B,ae⟩
   ·have:=Gr.new ((eH R.size).trans ((Z B).trans (au rfl)));simpa using this
   ·simp at hr;subst hr;exact⟨B,B,λq=>by have:=ia _ q;omega,λq=>by have:=ib _ q;omega⟩
   ·have⟨an,hD,e5,e6⟩:=q.2 A hr;exact ds A hD (e7 A e5 e6).1 (e7 A e5 e6).2
   ·have⟨an,hD,e5,e6⟩:=q.2 A hr;exact⟨an,B,e5,e6⟩
   ·have:=E.tx.ba A hr;exact⟨this.1,B,this.2.2⟩
   ·have:=E.tx.bb A hr;exact⟨this.1,B⟩
   ·rcases hw with rfl|rfl|hw
    ·exact E.xb _ (.inl rfl) A hr
    ·exact E.xb _ (.inr (.inl rfl)) A hr
    ·rcases cH hw with q|rfl
     ·exact E.xb w (.inr (.inr q)) A hr
     ·simp at hr;subst hr;omega
  ·simp[Mn,bs,cL,a6,bS,bT,bW,bp,cF,eR];exact⟨el,t,rfl,rfl,Q.t _ (aC cX),E,⟨bg,bi,bn⟩,cd,aE⟩
  rintro bH h ⟨⟨bs,cL,a6,bS,bT,bW,bp,cF⟩,⟨dm,eR⟩,RV,t',nF,nX,ef,E,⟨bg,bi,bn⟩,cd,aE⟩;have ey:∀D,(fJ h F.size D).get F.size=some D:=λD=>(eG aE D _).trans (au rfl);have hd:∀D,∀q,q<7->(fJ h F.size D).get q=h.get q:=λD q P=>(eG aE D _).trans (Z B);have hb:∀D I,(fJ (fJ h F.size D) F.size I).get F.size=some I:=λD I=>(eG (ey D) I _).trans (au rfl);have fE:∀D I,∀q,q<7->(fJ (fJ h F.size D) F.size I).get q=h.get q:=λD I q P=>(eG (ey D) I _).trans ((Z B).trans (hd D q P));simp[bW,bp,eR,bn,aE,qm,fG,ey,fE];have kp:=gg t (aC cX);have k2:IntKind.i64.wrap (t.ej+1)=t.ej+1:=by rw[<-kv,kG B B]
  rw[k2];have Q4:iQ 0 (fJ (fJ h F.size (X 4 (cd+1) [.eZ [C t.pC,a,b,C (t.ej+1)]])) F.size ⟨4,0,cd+1+1,true,false,[.eZ [C dm,a,b,C (t.ej+1)]]⟩):=(E.ok.put _ _).put _ _;have J:=E.mono Q4 (by rw[iy,iy];exact ax _) λq _ _ P=>by rw[eG (ey _),Z P,eG aE,Z P]
  have gQ:=(fE (X 4 (cd+1) [.eZ [C t.pC,a,b,C (t.ej+1)]]) ⟨4,0,cd+1+1,true,false,[.eZ [C dm,a,b,C (t.ej+1)]]⟩ 5 B).trans bn;have gy:=hb (X 4 (cd+1) [.eZ [C t.pC,a,b,C (t.ej+1)]]) ⟨4,0,cd+1+1,true,false,[.eZ [C dm,a,b,C (t.ej+1)]]⟩;generalize fJ (fJ h F.size _) F.size _=hf at*
  clear ey hd hb fE E aE bn;refine lV (λbH h=>Mn F.size bH/\SJ c s ch i S ch.eJ.toNat F.size n0 cc cf ct es lo hi a b RV t' h/\Ev9 y h/\ai4 F.size ct t.ej h) (λP=>?_) (λP=>?_) ?_
  ·have k1:=aC a7;simp[bs,a6,bp,J.b0,J.b2,fU e4,a7,gy];refine jB TC G ⟨x,⟨dm,t'.jN,t'.lr,t.ej+1⟩,a,b,RV,7,hf.size,1000000⟩ ⟨rfl,J.tx.same rfl rfl,ax _,Q4,⟨ef.rl,ef.tl,ef.tn⟩,ax _,gi x k1⟩ ?_;rintro _ hE ⟨u,hJ,rfl,gF,hS,pa,fA,hH⟩;have o5:=J.z;have hK:=(fA F.size B).trans gy;have fC:∀D,∀q,(fJ hE F.size D).get q=if q=F.size then some D else hE.get q:=λD q=>eG hK D q;simp[Mn,bs,cL,a6,bS,bT,bW,bp,cF,hK,fG];have hY:=J.mono (h':=hE) hH B λq P _ _=>fA q P;refine⟨hY.mono (hH.put _ _) (by rw[iy];exact ax _) λq _ _ P=>(fC _ q).trans (Z P),⟨bg,bi,(fC _ 5).trans ((Z B).trans ((fA 5 B).trans gQ))⟩,u.pC,sl (iz u.jN),sl (u.lr.map tn1),u.ej,u,_,(fC _ _).trans (au rfl),G,G,G,G,?_,gF,hS⟩;exact .cons (iO ..) (.cons (rn _ _ _ λx a7=>(Lq _ x a7).1) (.cons (rn _ _ _ λx a7=>by obtain⟨bC,_,rfl⟩:=List.mem_map.1 a7;simp[tn1]) (.cons (iO ..) .nil)))
  ·simp[Mn,bs,cL,a6,bS,bT,bW,bp,cF];refine⟨J,⟨bg,bi,gQ⟩,_,_,_,_,⟨dm,t'.jN,t'.lr,t.ej+1⟩,_,gy,J.tx.ga.jc,J.tx.ga.cells,J.tx.gb.jc,J.tx.gb.cells,(J.tx.same (s':=⟨dm,t'.jN,t'.lr,t.ej+1⟩) rfl rfl).fzB _ λw hw q x=>?_,⟨ef.rl,ef.tl,ef.tn⟩,.inl rfl⟩;have oI:=J.xb w hw q x;have oT:=J.m _ J.hk;have oV:=J.n7;have lR:q<hf.size:=by
    rcases hw with rfl|rfl|hw
    ·exact(J.tx.ba q x).2.1
    ·exact(J.tx.bb q x).2
    ·have⟨_,A⟩:=J.tx.el.left hw;exact(A.2 q x).2.1
   exact⟨lR,B,B,λD=>by have:=J.bt q D;have:=this.2.2 _ J.hk;omega⟩
  rintro bH h ⟨⟨bs,cL,a6,bS,bT,bW,bp,cF⟩,E,⟨bg,bi,bn⟩,hF,fi,fl,hG,u,oE,lh,nk,nn,eP,nr,lD,gF,hS⟩;have⟨L,gX,hV,ext,hW,t1,t2,t3,t4⟩:=E.gt.Bd (te:=Oz) rfl (i:=ch.eJ.toNat) (by rw[E.l];exact an);have⟨gZ,ng,kD⟩:=E.ek;replace t4:=t4.trans ((aB _).symm.trans kD);have mC:=E.bt L t1;have⟨l1,b7,ca⟩:=E.gc;have⟨l2,j0,kF⟩:=E.gf;generalize hB:jK.mk 4 gX (hV+1) ext false (hW.set ch.eJ.toNat (.eZ [C hF,fi,fl,C hG]))=ab;have ha:∀q,(fJ h L ab).get q=if q=L then some ab else h.get q:=λq=>eG t3 ab q;have eN:∀q,q<7->(fJ h L ab).get q=h.get q:=λq P=>(ha q).trans (Z B);have h4:=(eN 1 B).trans E.b1;have fo:=(eN 3 B).trans E.b3;have mA:=(eN 4 B).trans E.b4;have h5:=(eN 5 B).trans bn;have eM:∀D q,(fJ (fJ h L ab) 3 D).get q=if q=3 then some D else if q=L then some ab else h.get q:=λD q=>(eG fo D q).trans (by rw[ha]);have c7:∀D I q,(fJ (fJ (fJ h L ab) 3 D) 4 I).get q=if q=4 then some I else if q=3 then some D else if q=L then some ab else h.get q:=λD I q=>(eG ((eM D 4).trans ((Z B).trans ((Z B).trans E.b4))) I q).trans (by rw[eM]);have oi:(3=L)=False:=dR;have k5:(4=L)=False:=dR;have sv:∀D,gU (fJ h L ab) (fJ (fJ h L ab) 3 D) 5=true:=λD=>oU fo B D;have ih:∀D I,TI.fz (fJ (fJ (fJ h L ab) 3 D) 4 I) cc=some (sl (iz l1)):=λD I=>(b7.mono (h':=fJ (fJ (fJ h L ab) 3 D) 4 I) λq x=>by
   have:=E.bc q x;rw[c7,Z B,Z B,Z B]).fz G
  have ii:∀D I,TI.fz (fJ (fJ (fJ h L ab) 3 D) 4 I) cf=some (sl (iz l2)):=λD I=>(j0.mono (h':=fJ (fJ (fJ h L ab) 3 D) 4 I) λq x=>by
   have:=E.bf q x;rw[c7,Z B,Z B,Z B]).fz G
  have iD:∀D I,TI.fz (fJ (fJ (fJ h L ab) 3 D) 4 I) ct=some (sl ((s.ee.set ch.eJ.toNat u).map fV.t)):=λD I=>by
   refine(E.gt.setAt t1 t3 ch.eJ.toNat (.eZ [C hF,fi,fl,C hG]) (h':=fJ (fJ (fJ h L ab) 3 D) 4 I) (by rw[c7,Z B,Z B,au rfl,hB])).LD (Vq:=λ_=>True) (d:=4) B (EG (by simp[E.l]) λj x w eD hw=>?_);rw[aR]at hw;obtain⟨lC,di,rfl⟩:=Option.map_eq_some_iff.1 hw;by_cases eV:j=ch.eJ.toNat
   ·subst eV;rw[dL (by rw[E.l];exact an)]at eD;rw[dL an]at di;simp at eD di;subst eD;subst di;exact .inr (.inr ⟨_,_,rfl,lD.imp λ_ _ k=>k.mono λq P=>⟨trivial,by rw[c7,Z B,Z B,Z (λx=>P.2.2.2 (by rw[x];exact t1))]⟩,rfl⟩)
   ·rw[dM (λx=>eV x.symm)]at eD di;have k4:=E.m j (List.getElem?_eq_some_iff.1 di).1;have k6:=E.n7;refine(E.o j x lC eV eD di).mono λq P=>⟨trivial,?_⟩;rw[c7,Z B,Z B,Z (λx=>(E.bt L t1).2.2 j (List.getElem?_eq_some_iff.1 di).1 (by rw[<-x];exact P))]
  simp[cL,a6,bS,bT,bW,bp,E.b1,E.b2,fU e4,lh,t2,t3,t4,fG,hB,h4,fo,h5,eM,c7,k5,E.b4,sv,ih,ii,iD,E.ok.hp];have fP:S=(fZ c.fM s.gu ch.eJ y.fh y.obj ch.ry).1:=by rw[kk]
  have eW:=xP c.fM s.gu ch.eJ y.fh y.obj ch.ry;rw[<-fP]at eW;refine⟨⟨S,l1,l2,s.ee.set ch.eJ.toNat u⟩,⟨y.eJ,y.fh,y.obj,bg,y.jY,y.nQ,y.wm⟩,true,by simp[jD.t,jD.cs,aW],kC,λ_=>⟨⟨⟨by rw[eW.1];omega,by rw[eW.2.1];omega,by rw[eW.2.2];omega,by rw[ca];omega,by rw[kF];omega,dR⟩,?_,?_,λw hw=>?_⟩,λN hg w hw=>?_⟩⟩
  ·rw[fP];refine A9 Q.r _ ⟨e4,?_⟩ _ _ _;have:=ap.f.th;omega
  ·rw[fP];exact xQ Q.a _ _ _ _ _
  ·rcases cH hw with q|rfl
   ·exact Q.t w q
   ·exact gF
  ·rcases cH hw with q|rfl
   ·have:=hg w q;omega
   ·have:=hg t (aC cX);omega
end
end
def Sp9(f:H)(a:gY)(b c:List Int):Prop:=∃g d e,oJ f 2 7 g [(sl (a.fI.map fa.t),none),(C a.tx,none),(sl (a.done.map T.ez),none),(sl (a.ee.map ei.t),none),(d,some (1,iz b)),(e,some (1,iz c)),(dV,none)]
structure Tt9(c:kP)(S:gY)(Cq F:List Int)(cc cf:T)(n1 k:Nat)(h:H)(ver:Nat)(ct:T)(es:List T)(ts:List fV)(lo hi:Nat->Nat):Prop where
 ok:iQ 0 h
 n:3<=n1/\n1<=h.size
 b0:h.get 0=some (X 7 0 [c.t])
 b1:h.get 1=some pH
 b2:h.get 2=some (X 7 ver [.eZ [sl (S.fI.map fa.t),C S.tx,sl (S.done.map T.ez),sl (S.ee.map ei.t),cc,cf,ct]])
 gc:Gr h cc 1 (iz Cq)
 gf:Gr h cf 1 (iz F)
 bx:∀q,fq cc=some q\/fq cf=some q->3<=q/\q<n1
 th:Yr n1 h ct es ts lo hi
 l:ts.length=k
 t:∀t∈ts,ZE 1000000 t/\t.ej=0
def ahI(b:T):Prop:=∃a:jD,b=a.t/\StI a/\evB 0 a
def HV:pM prog cx 92 (λk:kP=>[k.t]) (λk=>∀x∈k.ee,x.j3.length<=10000001) (λ_=>ahI):=by
 refine jU [(90,zt.kc),(89,wC)] (jF 4504699140047487 [] func92) (λ_=>1005) (λa b h=>by simp at h;exact kP.inj h) ?_;rintro k dn r ap;simp at ap;obtain⟨_,⟨b,rfl,bA⟩,b6⟩:=zt.use k dn;cases b with
 |false=>
  simp[f92,ap,b6];exact⟨⟨⟨[],0,[],[]⟩,[],[],[]⟩,rfl,⟨G,λb9 hl=>by simp at hl,λb9 hl=>by simp at hl,λO ht=>by simp at ht⟩,λO ht=>by simp at ht⟩
 |true=>
  have al:=bA rfl;have a8:=lY al.1;obtain⟨eU,eV,eW,eX,e0,cb⟩:=a8;have eO:k.ee.length<=4:=by rw[al.2.1];exact cb
  simp[f92,ap,b6,L3,show k.fM.fI.length<=1000000 by omega,show k.fM.fH.length<=1000000 by omega,show k.fM.ee.length<=1000000 by omega];have bu:(mO k.fM).fI.length=k.fM.fI.length/\(mO k.fM).done.length=k.fM.fH.length/\(mO k.fM).ee.length=k.fM.ee.length:=by simp[mO]
  have de:GW 4 (mO k.fM):=(yo 4 k.fM);have di:(mO k.fM).Cx:=vj k.fM;generalize mO k.fM=o at*
  refine ik k.fM.cells.length B (λs r h=>∃K,Sp9 h o K []/\K.length=s/\Lb 2 h 0 (X 7 0 [k.t])/\Lb 2 h 1 pH/\Y r 1 (.fc 0 0 0 0)/\Y r 2 (.fc 1 0 0 0)/\Y r 3 (.fc 2 0 0 0)/\Y r 4 (C s)) ?_ ?_ B ?_
  ·rintro s r h U av ⟨K,⟨ver,L,N,u⟩,c9,z,R,v,E,I,J⟩;have D:=u.get;simp at D;have⟨eA,h',ae,y⟩:=(u.gr 4 rfl).m9 (cx:=cx) (f:=T.int .i64) u.ok qT rfl Av rfl G (λ_=>rfl) k.fM.cells[s].ka dR;have⟨aA,eh,bT⟩:=u.app 4 rfl y;have⟨W,aE⟩:=bT _ rfl;simp only[aO,bF,cP,cz]at aA W aE;simp[v,E,I,J,U,z.get,D,ae,aA,fG,y.1.jc,y.1.cells,av];exact⟨K++[k.fM.cells[s].ka],⟨_,_,_,aE⟩,dR,z.step W,R.step W⟩
  ·rintro r h ⟨K,eo,c9,z,R,v,E,I,J⟩;simp[v,J,z.get];refine ik k.fM.fH.length B (λs r h=>∃F,Sp9 h o K F/\F.length=s/\Lb 2 h 0 (X 7 0 [k.t])/\Lb 2 h 1 pH/\Y r 1 (.fc 0 0 0 0)/\Y r 2 (.fc 1 0 0 0)/\Y r 3 (.fc 2 0 0 0)/\Y r 5 (C s)) ?_ ?_ B ?_
   ·rintro s r h U av ⟨F,⟨ver,L,N,u⟩,bs,z,R,v,E,I,J⟩;have D:=u.get;simp at D;have⟨eA,h',ae,y⟩:=(u.gr 5 rfl).m9 (cx:=cx) (f:=T.int .i64) u.ok qT rfl Av rfl G (λ_=>rfl) 0 dR;have⟨aA,eh,bT⟩:=u.app 5 rfl y;have⟨W,aE⟩:=bT _ rfl;simp only[aO,bF,cP,cz]at aA W aE;simp[v,E,I,J,U,z.get,D,ae,aA,fG,y.1.jc,y.1.cells,av];exact⟨F++[0],⟨_,_,_,aE⟩,dR,z.step W,R.step W⟩
   ·rintro r h ⟨F,⟨ver,L,N,u⟩,bs,z,R,v,E,I,J⟩;simp[v,J,z.get];have D:=u.get;simp at D;have aX:=u.gr 4 rfl;have a6:=u.gr 5 rfl;have cF:∀q,fq L=some q\/fq N=some q->3<=q/\q<h.size:=λq Q=>by
     have bC:Fp h 2 q:=by
      rcases Q with x|x
      ·exact u.Ew (f:=(L,some (1,iz K))) G x
      ·exact u.Ew (f:=(N,some (1,iz F))) G x
     refine⟨?_,u.fp q bC⟩;have cd:q≠0:=λx=>z.nf (by rw[<-x];exact bC);have eB:q≠1:=λx=>R.nf (by rw[<-x];exact bC);have e4:q≠2:=λx=>by
      subst x;rcases Q with x|x
      ·have⟨_,_,_,_,S,_⟩:=aX.box x;rw[D]at S;simp at S
      ·have⟨_,_,_,_,S,_⟩:=a6.box x;rw[D]at S;simp at S
     omega
    have eN:=H.gh D;have eL:=aX.jc;have eF:=aX.cells;have eM:=a6.jc;have eH:=a6.cells;refine ik k.ee.length B (λs r h'=>∃ver ab bi aN bN bH,Tt9 k o K F L N h.size s h' ver ab bi aN bN bH/\Y r 1 (.fc 0 0 0 0)/\Y r 2 (.fc 1 0 0 0)/\Y r 3 (.fc 2 0 0 0)/\Y r 6 (C s)) ?_ ?_ (by have:=al.2.1;have:=cb;omega) ?_
    ·rintro s r h' U av ⟨ver,ab,bi,aN,bN,bH,i,v,E,I,J⟩;have⟨m,ds,eP⟩:∃m:Nat,k.ee[s].jN=m/\m<=32:=⟨k.ee[s].jN.toNat,by have:=al.2.2 _ (aG U);have:=this.1;omega,by have:=al.2.2 _ (aG U);have:=this.2.1;omega⟩;have cL:m*8<=70368744177664:=B;have cX:m*24<=70368744177664:=B;have dd:=i.n;have cd:∀q,q<3->(q=h'.size)=False:=λq Q=>by simp;omega
     have eB:∀q,q<3->(q=h'.size+1)=False:=λq Q=>by simp;omega
     have ca:=i.ok;have eS:=ca.low;have okM:iQ 0 ((h'.cons ⟨1,0,0,true,false,List.replicate m (C 0)⟩).cons ⟨1,0,0,true,false,List.replicate m dV⟩):=(ca.cons _).cons _;have bn:∀q,((h'.cons ⟨1,0,0,true,false,List.replicate m (C 0)⟩).cons ⟨1,0,0,true,false,List.replicate m dV⟩).get q=if q=h'.size+1 then some ⟨1,0,0,true,false,List.replicate m dV⟩else if q=h'.size then some ⟨1,0,0,true,false,List.replicate m (C 0)⟩else h'.get q:=λq=>by rw[fk,fk];rfl
     have cp:((h'.cons ⟨1,0,0,true,false,List.replicate m (C 0)⟩).cons ⟨1,0,0,true,false,List.replicate m dV⟩).size=h'.size+1+1:=rfl;have bS:Nb h' ((h'.cons ⟨1,0,0,true,false,List.replicate m (C 0)⟩).cons ⟨1,0,0,true,false,List.replicate m dV⟩):=⟨⟨okM.hp,okM.low,B⟩,λq Q=>(bn q).trans ((Z B).trans (Z B))⟩;have c7:=i.th.g.mono (h':=(h'.cons ⟨1,0,0,true,false,List.replicate m (C 0)⟩).cons ⟨1,0,0,true,false,List.replicate m dV⟩) λq x=>bS.get q (by have⟨_,_,_,_,S,_⟩:=i.th.g.box x;exact H.gh S);have⟨an,P,ae,y⟩:=c7.GR (cx:=cx) okM Px rfl Pu rfl G (x:= .eZ [C 0,.arr h'.size 0 0 m false,.arr (h'.size+1) 0 0 m false,C 0]) rfl (by have:=i.th.l;have:=i.l;have:=al.2.1;simp;omega);simp only[cp]at ae;have eC:=y.2.2.2.sz;rw[cp]at eC;have bg:∀q,fq ab=some q->h.size<=q:=λq x=>(i.th.c q x).1;have gN:∀q,q<h'.size->fq ab≠some q->P.get q=h'.get q:=λq Q dv=>(y.2.1 q B dv).trans (bS.get q Q);have bp:∀q,q<3->P.get q=h'.get q:=λq Q=>gN q B λx=>by have:=bg q x;omega
     have p2:=(bp 2 B).trans i.b2;simp[v,E,I,J,U,i.b0,i.b2,ds,cL,cX,cd,ae,p2,y.1.jc,y.1.cells,fG,av];have ef:iQ 0 P:=⟨y.2.2.2.hp,y.2.2.2.low,ay _⟩;have A:∀q,(fJ P 2 (X 7 (ver+1) [.eZ [sl (o.fI.map fa.t),C o.tx,sl (o.done.map T.ez),sl (o.ee.map ei.t),L,N,an]])).get q=if q=2 then some (X 7 (ver+1) [.eZ [sl (o.fI.map fa.t),C o.tx,sl (o.done.map T.ez),sl (o.ee.map ei.t),L,N,an]])else P.get q:=λq=>eG p2 _ q;have ec:=ef.put 2 (X 7 (ver+1) [.eZ [sl (o.fI.map fa.t),C o.tx,sl (o.done.map T.ez),sl (o.ee.map ei.t),L,N,an]]);have e5:(fJ P 2 (X 7 (ver+1) [.eZ [sl (o.fI.map fa.t),C o.tx,sl (o.done.map T.ez),sl (o.ee.map ei.t),L,N,an]])).size=P.size:=iy ..;generalize fJ P 2 _=bs at*
     have eR:List.replicate m (T.int .i64 0)=iz (List.replicate m 0):=by simp[iz]
     have et:DV h'.size (h'.size+1+1) ((h'.cons ⟨1,0,0,true,false,List.replicate m (C 0)⟩).cons ⟨1,0,0,true,false,List.replicate m dV⟩) (.arr h'.size 0 0 m false) (.arr (h'.size+1) 0 0 m false) (List.replicate m dV) ⟨0,List.replicate m 0,List.replicate m [],0⟩:=by
      refine⟨.inr ⟨h'.size,0,0,true,_,G,(bn _).trans ((Z B).trans (au rfl)),G⟩,.inr ⟨h'.size+1,0,0,true,_,G,(bn _).trans (au rfl),G⟩,EG G λj a b ap bA=>?_,λq x=>?_,λq x=>?_⟩
      ·have dk:=bZ (aC ap);have dm:=bZ (aC bA);subst dk;subst dm;exact⟨.inr (Gr.nil _ _),λq x=>by simp at x⟩
      ·simp at x;subst x;exact⟨ax _,B,G⟩
      ·simp at x;subst x;exact⟨B,B⟩
     have er:=(i.th.app i.n.2 bS et y).mono (h':=bs) B λq v _=>(A q).trans (Z B);refine⟨ver+1,an,_,_,_,_,⟨ec,⟨i.n.1,B⟩,(A 0).trans ((Z B).trans ((bp 0 B).trans i.b0)),(A 1).trans ((Z B).trans ((bp 1 B).trans i.b1)),(A 2).trans (au rfl),i.gc.mono λq x=>?_,i.gf.mono λq x=>?_,i.bx,er,by simp[i.l],λO ht=>?_⟩⟩
     ·have:=i.bx q (.inl x);exact(A q).trans ((Z B).trans (gN q B λp=>by have:=bg q p;omega))
     ·have:=i.bx q (.inr x);exact(A q).trans ((Z B).trans (gN q B λp=>by have:=bg q p;omega))
     ·rcases List.mem_append.1 ht with q|q
      ·exact i.t O q
      ·simp at q;subst q;exact⟨⟨dR,dR,λb9 hl=>by have:=bZ hl;subst this;exact Tn.nil _⟩,rfl⟩
    ·rintro r h' ⟨ver,ab,bi,aN,bN,bH,i,v,E,I,J⟩;have bB:=i.b1;unfold pH at bB;have A:∀p q,(fJ h' 1 p).get q=if q=1 then some p else h'.get q:=λp q=>eG bB p q;have dd:=i.n;have c1:∀p,TI.fz (fJ h' 1 p) L=some (sl (iz K)):=λp=>(i.gc.mono (h':=fJ h' 1 p) λq x=>by have:=i.bx q (.inl x);rw[A,Z B]).fz G;have c4:∀p,TI.fz (fJ h' 1 p) N=some (sl (iz F)):=λp=>(i.gf.mono (h':=fJ h' 1 p) λq x=>by have:=i.bx q (.inr x);rw[A,Z B]).fz G;have c6:∀p,TI.fz (fJ h' 1 p) ab=some (sl (aN.map fV.t)):=λp=>by
      have bX:=i.th.mono (h':=fJ h' 1 p) (by rw[iy];exact ax _) λq v _=>by rw[A,Z B]
      refine bX.g.LD (Vq:=λ_=>True) (d:=4) B (EG (by simp[bX.l]) λj x w eb a8=>?_);rw[aR]at a8;obtain⟨ey,ea,rfl⟩:=Option.map_eq_some_iff.1 a8;obtain⟨eD,eE,eK,rfl,eu⟩:=bX.e j x ey eb ea;exact .inr (.inr ⟨_,_,rfl,eu.fz _ λ_ _ _=>trivial,rfl⟩)
     simp[v,E,I,J,i.b0,i.b2,bB,fG,A,c1,c4,c6,i.ok.hp];have hl:=i.l;refine⟨⟨o,K,F,aN⟩,rfl,⟨⟨by rw[bu.1];omega,by rw[bu.2.1];omega,by rw[bu.2.2];omega,dS,dS,dS⟩,de,di,λO ht=>(i.t O ht).1⟩,λO ht=>by have:=(i.t O ht).2;omega⟩
    ·refine⟨ver,dV,[],[],λ_=>0,λ_=>0,⟨u.ok,⟨B,ax _⟩,z.get,R.get,D,aX,a6,cF,⟨Gr.nil _ _,rfl,λs eI O x=>by simp at x,λs x=>by simp at x,λs j x p=>by simp at p,λk x=>by simp at x⟩,rfl,λO ht=>by simp at ht⟩,by simp[v,E,I]⟩
   ·exact⟨[],eo,rfl,z,R,by simp[v,E,I]⟩
  ·generalize a7:H.cons _ _=b7;have ed:iQ 0 b7:=by rw[<-a7];exact⟨G,G,G⟩
   have bW:=oJ.start (h:=b7) (w:=2) (szw:=7) (ver:=1) (F:=[(sl (o.fI.map fa.t),none),(C o.tx,none),(sl (o.done.map T.ez),none),(sl (o.ee.map ei.t),none),(dV,some (1,[])),(dV,some (1,[])),(dV,none)]) ed (by rw[<-a7];simp) (λf b8=>by
    simp only[ci,cS,or_false]at b8;rcases b8 with rfl|rfl|rfl|rfl|rfl|rfl|rfl
    iterate 4 exact .inl ⟨rfl,G⟩
    iterate 2 exact .inr ⟨rfl,1,rfl,dT⟩
    exact .inl ⟨rfl,rfl⟩)
   exact⟨[],⟨1,_,_,bW.1⟩,rfl,⟨by rw[<-a7];simp,λx=>absurd (bW.2 0 x) B⟩,⟨by rw[<-a7];simp[pH],λx=>absurd (bW.2 1 x) B⟩,G⟩
section
attribute [-simp] size_cons
structure IFr where
 (c:kP) (s:jD) (L:List iv)
def Y9(a:IFr)(b:List T)(d:H):Prop:=b=[a.c.t,a.s.t,dV,sl (a.L.map iv.t)]/\iQ 0 d/\(∀e∈a.c.ee,e.j3.length<=10000001)/\StI a.s/\evB 0 a.s/\a.L.length<=80
def Tc(i:IFr)(h:List T)(c:H)(f:T)(d:H):Prop:=∃(a:List fR) (g:jD) (b:T),f= .tuple [b,g.t]/\Gr d b 7 (a.map fR.t)/\(∀e,fq b=some e->c.size<=e)/\Nb c d/\NK a/\a.length<=80
structure Fr9(c:kP)(h0:H)(n:Nat)(h:H)(s:jD)(l:List fR)(v:T)(ver:Nat):Prop where
 nb:Nb h0 h
 z:h0.size+3<=h.size
 b0:h.get h0.size=some (X 7 0 [c.t])
 b1:h.get (h0.size+1)=some (X 7 ver [s.t])
 b2:h.get (h0.size+1+1)=some pH
 g:Gr h v 7 (l.map fR.t)
 bx:∀q,fq v=some q->h0.size+3<=q
 st:StI s
 ev:evB n s
 es:NK l
 l:l.length<=n
def Fr9.ok{c:kP}{d a:H}{g:Nat}{h:jD}{f:List fR}{j:T}{k:Nat}(b:Fr9 c d g a h f j k):iQ 0 a:=⟨b.nb.ok.hp,b.nb.ok.low,ay _⟩
def TV:(km IFr Y9 Tc).Ok prog cx 91:=by
 refine kh (tb:=⟨pt [(130,KL.kc)],ht []⟩) jv jl (jF 68723687231 [(4,[(6,11),(6,12)])] func91) (λ_ _=>1005) (λi a e b6=>by obtain⟨rfl,_⟩:=b6;simp[f91]) ?_;rintro⟨s,k,I⟩ _ d ⟨rfl,aN,ap,aA,an,bN⟩ p N;simp only at ap aA an bN;simp at N;obtain⟨bB,bC,u,v⟩:=N;have U:=aN.hr;simp[f91,bB,bC];have c4:=aN.low;generalize q:((H.cons _ _).cons _).cons _=w;have c6:iQ 0 w:=by rw[<-q];exact((U.cons _).cons _).cons _
 have dm:w.size=d.size+1+1+1:=by rw[<-q];rfl
 have b8:Nb d w:=by rw[<-q];exact⟨((((Nb.refl U).cons _).cons _).cons _).ok,λs bS=>(((((Nb.refl U).cons _).cons _).cons _).get s bS).trans (iU d s)⟩
 have cp:w.get d.size=some (X 7 0 [s.t]):=by rw[<-q];simp
 have cF:w.get (d.size+1)=some (X 7 0 [k.t]):=by rw[<-q];simp
 have cL:w.get (d.size+1+1)=some pH:=by rw[<-q];simp[pH]
 clear q;refine vh I.length (λn p e=>∃k D E o,Fr9 s d n e k D E o/\Y p 4 (.fc d.size 0 0 0)/\Y p 5 (.fc (d.size+1) 0 0 0)/\Y p 9 (.fc (d.size+1+1) 0 0 0)/\Y p 2 E/\Y p 3 (sl (I.map iv.t))/\Y p 10 (C n)) ?_ B (ay _) ?_
 ·rintro n p e c1 ⟨k,D,E,o,c,P,A,Q,u,v,K⟩;have aE:=c.g.len (cx:=cx) e ZW _ rfl;rw[aI]at aE;simp[u,v,K,aE];refine fN (λf=>?_) (λf=>?_)
  ·have bX:n<I.length:=by simp at f;exact f.1
   have b7:=c.z;have bs:evB 999000 k:=λW ht=>by have:=c.ev W ht;omega
   obtain⟨_,⟨r,J,ca,rfl,bW,av⟩,ae⟩:=KL.use (s,k,I[n]) ⟨ap,c.st,bs⟩;simp only at ae av;have c7:(d.size=e.size)=False:=by simp<;>omega
   have dd:(d.size+1=e.size)=False:=by simp<;>omega
   have c9:(d.size=e.size+1)=False:=by simp<;>omega
   have de:(d.size+1=e.size+1)=False:=by simp<;>omega
   simp[v,P,A,K,c.b0,c.b1,bX,ae,c.ok.low];generalize L:fJ _ (e.size+1) _=j;have T:iQ 0 ((e.cons (X 7 1 [r.t])).cons (X 7 0 [.eZ [C 0,C 0,C 0,C 0,C 0,dV,dV]])):=(c.ok.cons _).cons _;have S:iQ 0 j:=by rw[<-L];exact T.put _ _
   have cX:j.size=e.size+1+1:=by rw[<-L,iy];rfl
   have O:∀b,j.get b=if b=e.size+1 then some (X 7 1 [J.t])else if b=e.size then some (X 7 1 [r.t])else e.get b:=λb=>by
    rw[<-L,ou T.hp (by show _<e.size+1+1;omega)];split
    ·rfl
    ·rw[fk,Z (by assumption),fk]
   clear L T;have Go:∀b,b<e.size->j.get b=e.get b:=λb f=>(O b).trans ((Z B).trans (Z B));have a0:=(Go d.size B).trans c.b0;have a1:=(Go (d.size+1) B).trans c.b1;have a2:=(Go (d.size+1+1) B).trans c.b2;have a6:=(O e.size).trans ((Z B).trans (au rfl));have aX:=(O (e.size+1)).trans (au rfl);have gA:=c.g.mono (h':=j) λb h=>by have⟨_,_,_,_,bu,_⟩:=c.g.box h;exact Go b (H.gh bu)
   cases ca with
   |false=>
    simp[u,v,P,A,Q,K,qm];rw[<-kv,kG B B];exact⟨n+1,B,B,k,D,E,⟨o,⟨⟨⟨S.hp,S.low,B⟩,λb f=>(Go b B).trans (c.nb.get b f)⟩,B,a0,a1,a2,gA,c.bx,c.st,λW ht=>by have:=c.ev W ht;omega,c.es,by have:=c.l;omega⟩⟩,rfl,G⟩
   |true=>
    have⟨cb,bp⟩:=av rfl;have b9:iQ 0 (fJ j (d.size+1) (X 7 (o+1) [r.t])):=S.put _ _;have m:∀b,(fJ j (d.size+1) (X 7 (o+1) [r.t])).get b=if b=d.size+1 then some (X 7 (o+1) [r.t])else j.get b:=λb=>eG a1 _ b;have di:(fJ j (d.size+1) (X 7 (o+1) [r.t])).size=e.size+1+1:=by rw[iy];exact cX
    simp[u,A,a6,a1];generalize fJ j (d.size+1) _=al at*
    have a7:=(m d.size).trans ((Z B).trans a0);have a8:=(m (d.size+1)).trans (au rfl);have bg:=(m (d.size+1+1)).trans ((Z B).trans a2);have bi:=(m (e.size+1)).trans ((Z B).trans aX);have bA:=gA.mono (h':=al) λb h=>(m b).trans (Z (by have:=c.bx b h;omega));have⟨cd,bH,bn,x⟩:=bA.m9 (cx:=cx) b9 UN rfl UL rfl G (λ_=>rfl) J (by have:=c.l;simp;omega);simp[v,P,A,Q,K,bi,bn,qm];rw[<-kv,kG B B];have dk:=x.2.2.2.sz;have F:∀b,b<d.size+3->bH.get b=al.get b:=λb f=>x.2.1 b B λh=>by have:=c.bx b h;omega
    exact⟨n+1,B,B,r,D++[J],cd,⟨o+1,⟨⟨⟨x.2.2.2.hp,x.2.2.2.low,B⟩,λb f=>(F b B).trans ((m b).trans ((Z B).trans ((Go b B).trans (c.nb.get b f))))⟩,B,(F d.size B).trans a7,(F (d.size+1) B).trans a8,(F (d.size+1+1) B).trans bg,x.1,λb h=>by
     rcases x.2.2.1 b h with y|y
     ·exact c.bx b y
     ·omega,cb,bp n c.ev,λa N=>by
     rcases List.mem_append.1 N with y|y
     ·exact c.es a y
     ·simp at y;subst y;exact bW,by have:=c.l;simp;omega⟩⟩,rfl,G⟩
  ·have R:=c.b2;unfold pH at R;have b7:=c.z;have m:∀y b,(fJ e (d.size+1+1) y).get b=if b=d.size+1+1 then some y else e.get b:=λy b=>eG R y b;simp[u,A,Q,c.b1,R,fG,m];have ab:∀b,b≠d.size+1+1->(mX d (fJ e (d.size+1+1) (X 7 1 [k.t]))).get b=e.get b:=λb f=>by rw[iB,m,Z f]
   exact⟨D,k,E,rfl,c.g.mono λb h=>ab b (by have:=c.bx b h;omega),λb h=>by have:=c.bx b h;omega,⟨⟨((c.ok.put _ _).out d).hp,((c.ok.put _ _).out d).low,by rw[wI,iy];exact c.nb.ok.sz⟩,λb f=>(ab b B).trans (c.nb.get b f)⟩,c.es,by have:=c.l;omega⟩
 ·exact⟨k,[],_,_,⟨b8,B,cp,cF,cL,Gr.nil _ _,λb h=>by simp at h,aA,an,λJ bT=>by simp at bT,ax _⟩,by simp[u,v]⟩
