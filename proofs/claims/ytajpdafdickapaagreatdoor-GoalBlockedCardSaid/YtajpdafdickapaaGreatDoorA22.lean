/- W07d -/
import Derived.Test.YtajpdafdickapaaGreatDoorA18
import Derived.Test.YtajpdafdickapaaGreatDoorA21
set_option linter.all false
set_option maxRecDepth 100000
set_option maxHeartbeats 8000000
namespace Go.Proofs.YtajpdafdickapaaGreatDoor
noncomputable section
open Go Go.TI Tryz
attribute [-simp] List.map_take List.map_drop List.map_append fy fa eg Bool.not_or Bool.not_and
attribute [simp] fw fc
section
attribute [-simp] size_cons
structure UA where
 (i:fR) (s:eJ) (a b:T) (es:List T) (lo hi N:Nat)
structure TOk(N r:Nat)(s:eJ):Prop where
 rl:s.iZ.length=r
 tl:s.kf.length=r
 tn:∀l∈s.kf,Tn N l
def Ph(c:UA)(e:List T)(d:H):Prop:=e=[c.i.t,Ci c.s c.a c.b]/\BC c.lo c.hi d c.a c.b c.es c.s/\c.hi<=d.size/\il 0 d/\1<=c.i.op/\c.i.op<=5/\TOk c.N c.s.iZ.length c.s/\c.s.iZ.length<=1000/\c.N<=1000000
def Lv(a:UA)(k:List T)(e:H)(j:T)(c:H):Prop:=∃d f g i h,j= .tuple [Ci d f g,.bool h]/\BC a.lo c.size c f g i d/\(∀b,b<e.size->(b<a.lo\/a.hi<=b)->c.get b=e.get b)/\il e.size c/\(h=true->TOk a.N a.s.iZ.length d/\d.dL=a.s.dL)
def BC.mono{g f lo' hi':Nat}{k h':H}{h i:T}{j:List T}{l:eJ}(c:BC g f k h i j l)(hl:lo'<=g)(n:f<=hi')(e:∀a,g<=a->a<f->h'.get a=k.get a):BC lo' hi' h' h i j l:=
 ⟨c.ga.mono λa b=>e a (c.ba a b).1 (c.ba a b).2.1,c.gb.mono λa b=>e a (c.bb a b).1 (c.bb a b).2,c.el.imp λm o d=>⟨d.1.mono λa b=>e a (d.2 a b).1 (d.2 a b).2.1,λa b=>⟨by have:=(d.2 a b).1;omega,by have:=(d.2 a b).2.1;omega,(d.2 a b).2.2⟩⟩,λa b=>⟨by have:=(c.ba a b).1;omega,by have:=(c.ba a b).2.1;omega,(c.ba a b).2.2⟩,λa b=>⟨by have:=(c.bb a b).1;omega,by have:=(c.bb a b).2;omega⟩⟩
def BC.same{h g:Nat}{f:H}{c d:T}{e:List T}{b s':eJ}(a:BC h g f c d e b)(i:s'.iZ=b.iZ)(j:s'.kf=b.kf):BC h g f c d e s':=⟨by rw[i];exact a.ga,a.gb,by rw[j];exact a.el,a.ba,a.bb⟩
def BC.zero(e d:Nat)(c:H):BC e d c dD dD [] ⟨0,[],[],0⟩:=⟨Gr.nil _ _,Gr.nil _ _,.nil,λb a=>by simp at a,λb a=>by simp at a⟩
def PR:(jM UA Ph Lv).Ok prog cx 220:=by
 refine jB (tb:=⟨pt [(106,ox),(246,yo.jv),(245,Id.jv),(247,FJ.jv)],ht [(95,jM IUn Pf JW)]⟩) iR iE (iX 9904163146420522906957187071 [(20,[(2,4),(2,6),(2,7),(2,8)]),(10,[(2,4),(2,6),(2,7),(2,8),(2,10),(2,12),(2,13),(2,14)]),(22,[(1,11),(3,11),(5,11),(7,11),(5,13),(7,13)])] func220) (λ_ _=>100) (λi a g fs=>by obtain⟨rfl,_⟩:=fs;simp[f220]) ?_;rintro⟨i,j,a,b,R,ef,fl,N⟩ _ g ⟨rfl,h,fi,c7,fv,fA,w,hr,fb⟩ l dm;simp only at h fi fv fA w hr fb;simp[Ci]at dm;obtain⟨e8,e9⟩:=dm;simp[f220,e8,e9,vf];generalize S:(((TI.hr g).cons _).cons _).cons _=q;have F:il 0 q:=by rw[<-S];exact((c7.hr.cons _).cons _).cons _
 have gz:q.size=g.size+1+1+1:=by rw[<-S];rfl
 have av:Nb g q:=by rw[<-S];exact⟨((((Nb.refl c7.hr).cons _).cons _).cons _).ok,λd f=>(((((Nb.refl c7.hr).cons _).cons _).cons _).get d f).trans (ik g d)⟩
 have P:q.get g.size=some (dE 6 0 [i.t]):=by rw[<-S];simp
 have Q:q.get (g.size+1)=some (dE 4 0 [.agg [Z j.pC,a,b,Z j.dL]]):=by rw[<-S];simp
 have aA:q.get (g.size+1+1)=some (dE 4 0 [.agg [Z 0,dD,dD,Z 0]]):=by rw[<-S];simp
 clear S;have ec:=h.ga.len (cx:=cx) q Sz _ rfl;rw[aH]at ec;have e7:∀y,(dZ q (g.size+1+1) y).get (g.size+1+1)=some y:=λy=>(dN aA y _).trans (ar rfl);have gS:=C0 i;refine fD (jb i).length J (λV l h'=>q=h'/\dF l 2 (.ptr g.size 0 0 0)/\dF l 3 (.ptr (g.size+1) 0 0 0)/\dF l 4 (.ptr (g.size+1+1) 0 0 0)/\dF l 6 (sl (ge (jb i)))/\dF l 7 (Z V)/\∀E∈(jb i).take V,0<=E/\E<j.iZ.length) ?_ ?_ J dy
 ·rintro V l _ ap fe ⟨rfl,r,s,A,bu,bB,D⟩;have fB:(jb i).take (V+1)=(jb i).take V++[(jb i)[V]]:=aQ ap;simp[s,bu,bB,ap,Q,ec];generalize(jb i)[V]=E at*
  refine ej (λbi=>?_) (λbi=>?_)
  ·simp[A,aA,e7,dX];refine⟨⟨0,[],[],0⟩,_,_,_,false,rfl,BC.zero _ _ _,λd f _=>?_,⟨(F.put _ _).out g|>.hp,(F.put _ _).out g|>.low,dz⟩,dy⟩;rw[fV,dN aA,aq J];exact av.get d f
  ·simp at bi;simp[r,s,A,bu,bB,fe,fB];intro x c1;rcases c1 with c1|rfl
   ·exact D x c1
   ·omega
 ·rintro l _ ⟨rfl,r,s,A,bu,bB,D⟩;rw[aK]at D;simp[r,bu,bB,P];have b6:pY q 1 a (ge j.iZ):= .inr (h.ga.mono λd f=>av.get d (by have:=(h.ba d f).2.1;omega));have b7:pY q 1 b R:= .inr (h.gb.mono λd f=>av.get d (by have:=(h.bb d f).2;omega));have bT:∀E:Int,0<=E->E<j.iZ.length->∃u e,j.kf[E.toNat]? =some u/\R[E.toNat]? =some e/\pY q 1 e (ge u)/\Tn N u:=λE r0 r1=>by
   have ap:E.toNat<j.kf.length:=by have:=w.tl;omega
   have⟨e,bN,k⟩:=h.el.get (az ap);exact⟨_,e,az ap,bN,k.1.mono λd f=>av.get d (by have:=(k.2 d f).2.1;omega),w.tn _ (aF ap)⟩
  refine ll (λl C=>∃(v:Int) (eE:T) (Y:T) (X:List Int),FS eE/\Nb q C/\pY C 1 Y (ge X)/\Tn N X/\iN i.a j.iZ.length=true/\dF l 2 (.ptr g.size 0 0 0)/\dF l 3 (.ptr (g.size+1) 0 0 0)/\dF l 4 (.ptr (g.size+1+1) 0 0 0)/\dF l 8 (Z v)/\dF l 9 eE/\dF l 10 Y) (λbi=>?_) (λbi=>?_) ?_
  ·simp[r,s,A,P,Q,aA,dX,mL,F.hp,gz];refine⟨{j with pC:=i.a},a,b,R,true,rfl,(h.mono (aw _) dz λd _ f=>?_).same rfl rfl,λd f _=>?_,⟨(((F.put _ _).put _ _).out g).hp,(((F.put _ _).put _ _).out g).low,dz⟩,λ_=>⟨⟨rfl,w.tl,w.tn⟩,rfl⟩⟩
   all_goals (rw[fV,mL (by simpa using F.hp) dz,aq J,dN Q,aq J];exact av.get d J)
  ·have gP:¬i.op=5:=by simpa using bi
   have f:i.op=1\/i.op=2\/i.op=3\/i.op=4:=J;rcases f with e|e|e|e
   ·have I:=D i.a (by unfold jb;simp[e]);simp[r,s,A,P,e];exact⟨_,_,⟨_,rfl⟩,Nb.refl F,_,[],.inr (Gr.nil _ _),Tn.nil N,eZ.2 ⟨I.1,J⟩,rfl,rfl,rfl⟩
   ·have I:=D i.a (by unfold jb;simp[e]);have B:=D i.b (by unfold jb;simp[e]);have⟨p1,aE,aN⟩:=b6.idx (te:=HA) rfl rfl (i:=i.b.toNat) (x:= Z j.iZ[i.b.toNat]) (by simp[show i.b.toNat<j.iZ.length by omega]) rfl;have⟨u,Y,hl,bn,O,L⟩:=bT i.b B.1 B.2;have⟨p2,aX,a6⟩:=b7.idx (te:=qm) rfl rfl bn O.iy.2;simp[r,s,A,P,Q,e,eG B.1,aE,aN,aX,a6];exact⟨_,_,⟨_,rfl⟩,Nb.refl F,_,u,O,L,eZ.2 ⟨I.1,J⟩,rfl,rfl,rfl⟩
   ·have I:=D i.a (by unfold jb;simp[e]);have B:=D i.b (by unfold jb;simp[e]);have⟨p1,aE,aN⟩:=b6.idx (te:=HA) rfl rfl (i:=i.b.toNat) (x:= Z j.iZ[i.b.toNat]) (by simp[show i.b.toNat<j.iZ.length by omega]) rfl;have⟨u,Y,hl,bn,O,L⟩:=bT i.b B.1 B.2;have⟨p2,aX,a6⟩:=b7.idx (te:=qm) rfl rfl bn O.iy.2;obtain⟨_,⟨o,rfl⟩,cb⟩:=yo.use i.n trivial;obtain⟨_,⟨gw,fS,rfl⟩,a7⟩:=Id.use (o,j.iZ[i.b.toNat]) trivial;simp only at a7;simp[r,s,A,P,Q,e,eG B.1,aE,aN,aX,a6,cb,a7];exact⟨_,_,⟨_,rfl⟩,Nb.refl F,_,u,O,L,eZ.2 ⟨I.1,J⟩,rfl,rfl,rfl⟩
   ·have I:=D i.a (by unfold jb;simp[e]);have B:=D i.b (by unfold jb;simp[e]);have cL:=D i.c (by unfold jb;simp[e]);have⟨p1,aE,aN⟩:=b6.idx (te:=HA) rfl rfl (i:=i.b.toNat) (x:= Z j.iZ[i.b.toNat]) (by simp[show i.b.toNat<j.iZ.length by omega]) rfl;have⟨p3,eM,eN⟩:=b6.idx (te:=HA) rfl rfl (i:=i.c.toNat) (x:= Z j.iZ[i.c.toNat]) (by simp[show i.c.toNat<j.iZ.length by omega]) rfl;have⟨u,Y,hl,bn,O,L⟩:=bT i.b B.1 B.2;have⟨l2,gy,gQ,fC,er,eD⟩:=bT i.c cL.1 cL.2;have⟨p2,aX,a6⟩:=b7.idx (te:=qm) rfl rfl bn O.iy.2;have⟨p4,eO,eP⟩:=b7.idx (te:=qm) rfl rfl fC er.iy.2;obtain⟨_,⟨o,rfl⟩,cb⟩:=yo.use i.n trivial;obtain⟨_,⟨gw,fS,rfl⟩,a7⟩:=FJ.use (o,j.iZ[i.b.toNat],j.iZ[i.c.toNat]) trivial;simp only at a7;simp[r,s,P,Q,e,eG B.1,eG cL.1,aE,aN,aX,a6,eM,eN,eO,eP,cb,a7];refine iC Ic dy ⟨u,l2,Y,gy⟩ ⟨rfl,O,er,by have:=L.1;have:=eD.1;simp only;omega,F⟩ ?_;rintro E C ⟨gn,K,_⟩;simp[r,s,A];exact⟨_,_,⟨_,rfl⟩,K,_,_,gn,L.union eD,eZ.2 ⟨I.1,J⟩,rfl,rfl,rfl⟩
  ·rintro l C ⟨v,_,Y,X,⟨fY,rfl⟩,K,gm,L,I,r,s,A,di,dk,de⟩;have b8:=(K.get _ J).trans P;have b9:=(K.get _ J).trans Q;have dd:=(K.get _ J).trans aA;have ho:=K.ok.sz;have⟨cp,p,ca,⟨hb,gE,gA⟩,hj,bs,M⟩:=kq (cx:=cx) (⟨K.ok.hp,K.ok.low,ax _⟩:il 0 C) j9 rfl mY j9 rfl rfl dy gm.jw (by simp[T.cells]) (by have:=L.1;simp;omega);have U:=eZ.1 I;have W:Nb g p:=⟨⟨M.hp,M.low,J⟩,λd f=>(bs d J).trans ((K.get d J).trans (av.get d f))⟩;have gB:=(bs _ J).trans b8;have eI:=(bs _ J).trans b9;have eL:=(bs _ J).trans dd;have⟨m,gD,hd,gI,hg,a8,dn,al,ds⟩:=(h.ga.mono (h':=p) λd f=>W.get d (by have:=(h.ba d f).2.1;omega)).Bp (te:=HA) rfl (i:=i.a.toNat) (by simpa using U.2);have⟨z,eR,hf,gM,hh,an,ff,bH,dv⟩:=(h.gb.mono (h':=p) λd f=>W.get d (by have:=(h.bb d f).2;omega)).Bp (te:=qm) rfl (i:=i.a.toNat) (by rw[h.el.length,w.tl];exact U.2);simp at ca;have bS:=(h.ba m a8).2.2;have eb:¬m=z:=λk=>bS (by rw[k];exact an);have eh:=H.fh al;have fL:=H.fh bH;have eo:=(h.ba m a8);have ha:=(h.bb z an);have gV:=eo.1;have gZ:=eo.2.1;have⟨e,bN,gk⟩:=h.el.get (az (show i.a.toNat<j.kf.length by rw[w.tl];exact U.2));have eB:=JO (x:= .arr C.size cp 0 X.length false) gk.1.na;have fE:R[i.a.toNat]'(by rw[h.el.length,w.tl];exact U.2)=e:=by rw[az (by rw[h.el.length,w.tl];exact U.2)]at bN;simpa using bN
   rw[fE]at dv;have eC:∀x:Int,mG (Z x) 0 [Z v]=some (Z v):=λx=>rfl;have c9:∀d,d<C.size->fk (C.cons (dE 1 0 [])) p d=true:=λd f=>fG ((bs d f).trans (by rw[dS,aq J]));have et:=c9 g.size J;have eu:=c9 (g.size+1) J;have ey:=nd al (show g.size≠m by omega);have eA:=nd al (show g.size+1≠m by omega);have gv:=nd al (show z≠m by omega);have eS:(g.size+1=m)=False:=dz;have eU:(g.size+1=z)=False:=dz;have eV:(g.size+1+1=m)=False:=dz;have eW:(g.size+1+1=z)=False:=dz;have eX:(z=m)=False:=dz;have l1:g.size+1<p.size:=J;have l2:g.size+1+1<p.size:=J;have ea:b= .arr z eR 0 R.length false:=by
    have⟨_,_,_,_,k,e⟩:=(h.gb.mono (h':=p) λd f=>W.get d (by have:=(h.bb d f).2;omega)).box an;rw[bH]at k;simp at k;rw[e,k.1]
   have fo:i.a.toNat<R.length:=by rw[h.el.length,w.tl];exact U.2
   simp at ds;simp[r,s,A,di,dk,de,b8,b9,ca,eG U.1,dn,ea,fo,al,bH,eI,eL,ds,dv,eC,eB,et,eu,ey,eA,mL,M.hp,eh,fL,eS,eU,eV,eW,eX,l1,l2,dX,oG];clear ca c9 et eu ey eA gv b8 b9 dd r s A di dk de eB eC dn ff;have e4:=h.ga.mono (h':=p) λd f=>W.get d (by have:=(h.ba d f).2.1;omega);have e6:=h.gb.mono (h':=p) λd f=>W.get d (by have:=(h.bb d f).2;omega);rw[<-ea];generalize bC:dZ (dZ (dZ (dZ p m _) z _) (g.size+1) _) (g.size+1+1) _=ae;have hn:ae.size=p.size:=by rw[<-bC];simp
   have Ka:il 0 ae:=by rw[<-bC];exact(((M.put _ _).put _ _).put _ _).put _ _
   have G:∀d,ae.get d=if d=g.size+1+1 then _ else if d=g.size+1 then _ else if d=z then _ else if d=m then _ else p.get d:=λd=>by
    rw[<-bC,mL (by simpa using M.hp) dz,mL (by simpa using M.hp) dz,mL (by simpa using M.hp) dz,mL M.hp eh]
   clear bC;have Go:∀d,d≠g.size+1+1->d≠g.size+1->d≠z->d≠m->ae.get d=p.get d:=λd gd gg gi gj=>by rw[G,aq gd,aq gg,aq gi,aq gj]
   have e0:=e4.setAt a8 al i.a.toNat (Z v) (h':=ae) (by rw[G,aq J,aq J,aq J,ar rfl]);have e5:=e6.setAt an bH i.a.toNat (.arr C.size cp 0 X.length false) (h':=ae) (by rw[G,aq J,aq J,ar rfl]);have eF:∀d,dT a=some d->d=m:=λd f=>by rw[a8]at f;simpa using f.symm
   have eH:∀d,dT b=some d->d=z:=λd f=>by rw[an]at f;simpa using f.symm
   refine⟨⟨IntKind.i64.wrap (j.pC+1),j.iZ.set i.a.toNat v,j.kf.set i.a.toNat X,j.dL⟩,a,b,R.set i.a.toNat (.arr C.size cp 0 X.length false),fY,rfl,⟨?_,?_,?_,λd f=>?_,λd f=>?_⟩,λd f hr=>?_,⟨(Ka.out g).hp,(Ka.out g).low,dz⟩,λ_=>⟨⟨dy,by simp;exact w.tl,λu hl=>?_⟩,rfl⟩⟩
   ·have:=e0.out g;simpa[ge,br]using this
   ·exact e5.out g
   ·refine h.el.set i.a.toNat ⟨.inr ?_,λd f=>?_⟩ λe u k=>⟨k.1.mono λd f=>?_,λd f=>?_⟩
    ·have:=Gr.new ((Go C.size J J J J).trans gA);simpa using this.out g
    ·simp at f;subst f;exact⟨by show ef<=_;omega,dz,λk=>by have:=eF _ k;omega,λk=>by have:=eH _ k;omega⟩
    ·have⟨bS,eb,c4,c6⟩:=k.2 d f;rw[fV,Go d J J (λk=>c6 (by rw[k];exact an)) (λk=>c4 (by rw[k];exact a8))];exact W.get d J
    ·have⟨bS,eb,c4,c6⟩:=k.2 d f;exact⟨bS,dz,c4,c6⟩
   ·have:=h.ba d f;exact⟨this.1,dz,this.2.2⟩
   ·have:=h.bb d f;exact⟨this.1,dz⟩
   ·have hr:d<ef\/fl<=d:=hr;rw[fV,Go d J J J J];exact W.get d f
   ·rcases cm hl with k|rfl
    ·exact w.tn u k
    ·exact L
structure Yt where
 (c:gh) (s:eJ) (a b:T) (es:List T) (lo hi N:Nat)
structure VQ(N:Nat)(s:eJ):Prop where
 rl:s.iZ.length<=1000
 tl:s.kf.length<=1000
 tn:∀l∈s.kf,Tn N l
def Pi(d:Yt)(f:List T)(e:H):Prop:=f=[d.c.t,Ci d.s d.a d.b]/\BC d.lo d.hi e d.a d.b d.es d.s/\d.hi<=e.size/\il 0 e/\VQ d.N d.s/\d.N<=1000000/\d.c.jm.length<=10000001
def Dh(e:Yt)(h:List T)(c:H)(g:T)(d:H):Prop:=∃a f,g= .tuple [a.t,.bool f]/\VQ e.N a/\(a.dL=e.s.dL\/a.dL=0)/\d.size=c.size/\(∀b,b<c.size->d.get b=c.get b)/\il 0 d
def IH(d:List Int):∀a∈ge d,cn a=a/\j2 a=true/\∀b,a≠ .agg b:=λa c=>by obtain⟨e,_,rfl⟩:=List.mem_map.1 c;simp
def BC.fz{o m:Nat}{h:H}{g l:T}{p:List T}{e:eJ}(c:BC o m h g l p e)(k:Nat->Prop)(i:∀a,o<=a->a<m->k a):iM (FT h k 3) [Z e.pC,g,l,Z e.dL] e.cs:=
 .cons (gW ..) (.cons ((show pY h 1 g (ge e.iZ)from .inr c.ga).ft (d:=1) (IH _) λa b=>i a (c.ba a b).1 (c.ba a b).2.1)
  (.cons (c.gb.ft (λa b=>i a (c.bb a b).1 (c.bb a b).2) (c.el.Xb (f:=λn=>sl (ge n)) λq n j=>j.1.ft (d:=0) (IH _) λa b=>i a (j.2 a b).1 (j.2 a b).2.1)) (.cons (gW ..) .nil)))
def VH{i:Yt}{args:List T}{b d:H}{e:List T}{s':eJ}{ok:Bool}{V:Nat->Prop}(o:il 0 b)(a:Nb b d)(l:∀c,V c->b.size<=c)(k:iM (FT d V 3) e s'.cs)(q:VQ i.N s')(n:s'.dL=i.s.dL\/s'.dL=0):yK b (.tuple [.agg e,.bool ok]) d (Dh i args b):=by
 have⟨p,h,j⟩:=FT.tup J l k ok;refine⟨a.ok.hp,a.ok.sz,λc r m _=> .inl (a.get c m),p,h,s',ok,by rw[j];rfl,q,n,rfl,λg f=>(z9 a.ok.hp a.ok.sz f).trans (a.get g f),o.cut a.ok.hp a.ok.sz⟩
def Lm:eJ:=⟨0,[],[],0⟩
def Ei{d:Yt}{c:List T}{a b:H}(f:il 0 a)(e:Nb a b):yK a (.tuple [.agg [Z 0,dD,dD,Z 0],.bool false]) b (Dh d c a):=
 VH (s':=Lm) (V:=λ_=>False) f e (λ_ g=>g.elim) (.cons (gW ..) (.cons (jl ..) (.cons (jl ..) (.cons (gW ..) .nil)))) ⟨by simp[Lm],by simp[Lm],by simp[Lm]⟩ (.inr rfl)
structure SeS(c:gh)(s:eJ)(N:Nat)(h h':H)(s':eJ)(a' b':T)(es':List T)(ver:Nat):Prop where
 tx:BC (h.size+1+1+1) h'.size h' a' b' es' s'
 nb:Nb h h'
 hz:h.size+1+1+1<=h'.size
 g2:h'.get h.size=some (dE 2 0 [c.t])
 g3:h'.get (h.size+1)=some (dE 4 ver [.agg [Z s'.pC,a',b',Z s'.dL]])
 g4:h'.get (h.size+1+1)=some (dE 4 0 [.agg [Z 0,dD,dD,Z 0]])
 to:TOk N s.iZ.length s'
 ev:s'.dL=s.dL
def PT:(jM Yt Pi Dh).Ok prog cx 177:=by
 refine rC (tb:=⟨pt [(218,xc)],ht [(219,jM ICp Pm JY),(220,jM UA Ph Lv)]⟩) iR iE (iX 1182933510117985879039 [] func177) (λA a=>10000005) (λi A a ea=>by obtain⟨rfl,_⟩:=ea;simp[f177]) ?_;rintro⟨b,d,A,V,a8,bS,bB,U⟩ _ a ⟨rfl,u,dm,ok,tb,bs,x⟩ z bu;simp only at u dm tb bs x;simp[Ci]at bu;obtain⟨de,L⟩:=bu;have bH:=λL:H=>u.ga.len (cx:=cx) L Sz _ rfl;have bN:=λL:H=>u.gb.len (cx:=cx) L Oy _ rfl;rw[aH]at bH;rw[u.el.length]at bN;simp[f177,de,L,bH,bN];generalize w:(((TI.hr a).cons _).cons _).cons _=s;have eu:il 0 s:=by rw[<-w];exact((ok.hr.cons _).cons _).cons _
 have eR:s.size=a.size+1+1+1:=by rw[<-w];rfl
 have aA:Nb a s:=by rw[<-w];exact⟨((((Nb.refl ok.hr).cons _).cons _).cons _).ok,λb x=>(((((Nb.refl ok.hr).cons _).cons _).cons _).get b x).trans (ik a b)⟩
 have cp:s.get a.size=some (dE 2 0 [b.t]):=by rw[<-w];simp
 have a6:s.get (a.size+1)=some (dE 4 0 [.agg [Z d.pC,A,V,Z d.dL]]):=by rw[<-w];simp
 have W:s.get (a.size+1+1)=some (dE 4 0 [.agg [Z 0,dD,dD,Z 0]]):=by rw[<-w];simp
 clear w;have dd:∀c,(dZ s (a.size+1+1) c).get (a.size+1+1)=some c:=λc=>(dN W c _).trans (ar rfl);refine ej (λO=>?_) (λO=>?_)
 ·simp[W,dd,dX];exact Ei ok (aA.put W J _)
 simp at O;have et:∀b,bS<=b->b<bB->s.get b=a.get b:=λb _ x=>aA.get b J;have aN:=u.mono (aw _) (aw _) et;simp[a6];refine iC Io dy ⟨d,A,V,a8⟩ ⟨rfl,⟨.inr aN.ga,.inr aN.gb,aN.el.imp λ_ _ q=>q.1,λe h he av=>?_⟩,eu,by have:=tb.rl;simp only;omega,by have:=tb.tl;simp only;omega,λl hl=>by have:=(tb.tn l hl).1;omega⟩ ?_
 ·rcases he with rfl|rfl|he
  ·have:=(u.ba h av).2.1;omega
  ·have:=(u.bb h av).2;omega
  ·have⟨l,q,k⟩:=u.el.left he;have:=(k h av).2.1;omega
 rintro _ g ⟨a1,o,es1,rfl,ca,y⟩;simp only at ca;have eO:=y.ok.sz;have cL:=(y.get _ J).trans cp;have B:=(y.get _ J).trans a6;have c1:=(y.get _ J).trans W;have b7:Nb a (dZ g (a.size+1) (dE 4 1 [.agg [Z d.pC,a1,o,Z d.dL]])):=(aA.trans y).put B J _;have eB:=ca.mono (lo':=a.size+1+1+1) (hi':=(dZ g (a.size+1) (dE 4 1 [.agg [Z d.pC,a1,o,Z d.dL]])).size) (h':=dZ g (a.size+1) (dE 4 1 [.agg [Z d.pC,a1,o,Z d.dL]])) J dy λb x _=>by rw[dN B,aq J]
 have eN:il 0 g:=⟨y.ok.hp,y.ok.low,ax _⟩;have c4:(dZ g (a.size+1) (dE 4 1 [.agg [Z d.pC,a1,o,Z d.dL]])).get a.size=_:=(show(dZ g (a.size+1) (dE 4 1 [.agg [Z d.pC,a1,o,Z d.dL]])).get a.size=g.get a.size by rw[dN B,aq J]).trans cL;have c6:(dZ g (a.size+1) (dE 4 1 [.agg [Z d.pC,a1,o,Z d.dL]])).get (a.size+1)=_:=(dN B _ _).trans (ar rfl);have a7:(dZ g (a.size+1) (dE 4 1 [.agg [Z d.pC,a1,o,Z d.dL]])).get (a.size+1+1)=_:=(show(dZ g (a.size+1) (dE 4 1 [.agg [Z d.pC,a1,o,Z d.dL]])).get (a.size+1+1)=g.get (a.size+1+1)by rw[dN B,aq J]).trans c1;simp[Ci,B,dX];generalize dZ g (a.size+1) _=eH at*
 refine fD (b.jm.length+1) J (λQ z h'=>∃r I K X T,SeS b d U a h' r I K X T/\dF z 2 (.ptr a.size 0 0 0)/\dF z 3 (.ptr (a.size+1) 0 0 0)/\dF z 4 (.ptr (a.size+1+1) 0 0 0)/\dF z 6 (Z Q)) ?_ ?_ J ?_
 ·rintro Q z h' eI di ⟨r,I,K,X,T,⟨aX,p,ec,C,D,f,n,ap⟩,F,G,v,M⟩;have E:∀c,(dZ h' (a.size+1+1) c).get (a.size+1+1)=some c:=λc=>(dN f c _).trans (ar rfl);have b9:il 0 h':=⟨p.ok.hp,p.ok.low,ax _⟩;simp[F,G,M,C,D,show(Q:Int)<=b.jm.length by omega];refine ej (λO=>?_) (λO=>?_)
  ·simp[v,f,E,dX];exact Ei ok (p.put f J _)
  simp at O;have⟨j,N⟩:∃j:Nat,r.pC=j:=⟨r.pC.toNat,J⟩;have dn:j<b.jm.length:=J;have er:(a.size=h'.size)=False:=dz;have bT:(a.size+1=h'.size)=False:=dz;have b6:(a.size+1+1=h'.size)=False:=dz;have ds:=b9.low;simp[F,G,C,D,N,dn,ds,xC];generalize b.jm[j]=h at*
  have eM:=p.cons (dE 6 1 [h.t]);have eC:VQ U r:=⟨by have:=n.rl;have:=tb.rl;omega,by have:=n.tl;have:=tb.rl;omega,n.tn⟩;have eF:∀c,((dZ h' (a.size+1+1) c).cons (dE 6 1 [h.t])).get (a.size+1+1)=some c:=λc=>by rw[dS,aq dz];exact E c
  refine ej (λae=>?_) (λae=>?_)
  ·have c9:∀c:iY,∀b,a.size+1+1+1<=b->b<h'.size->((dZ h' (a.size+1+1) c).cons (dE 6 1 [h.t])).get b=h'.get b:=λc b eA aE=>by rw[dS,aq dz,dN f,aq J]
   simp[G,v,D,f,bT,b6,N,E,dX,show a.size+1+1<h'.size by omega];have:=VH (i:=⟨b,d,A,V,a8,bS,bB,U⟩) (args:=[b.t,Ci d A V]) (ok:=true) ok ((p.put f J (dE 4 1 [.agg [Z r.pC,I,K,Z r.dL]])).cons (dE 6 1 [h.t])) (λb x=>(show a.size<=b from x)) ((aX.mono (aw _) (aw _) (c9 _)).fz (λb=>a.size<=b) λb q _=>by omega) eC (.inl ap);rw[N]at this;exact this
  simp at ae;have bC:1<=h.op/\h.op<=5:=by unfold wZ at ae;simpa using ae
  have dv:decide ((Q:Int)=b.jm.length)=decide (Q=b.jm.length):=by rw[decide_eq_decide];omega
  simp[F,M,C,er,dv];refine ej (λeb=>?_) (λeb=>?_)
  ·simp[v,f,b6,dX,E,show a.size+1+1<h'.size by omega];exact Ei ok ((p.put f J _).cons _)
  simp[G,D,bT,N];have eD:=aX.mono (h':=h'.cons (dE 6 1 [h.t])) (aw _) (aw _) λb _ q=>by rw[dS,aq J]
  refine iC PR dy ⟨h,r,I,K,X,a.size+1+1+1,h'.size,U⟩ ⟨by simp[Ci,N],eD,dy,b9.cons _,bC.1,bC.2,⟨rfl,by have:=n.rl;have:=n.tl;simp only;omega,n.tn⟩,by have:=tb.rl;have:=n.rl;simp only;omega,bs⟩ ?_;rintro _ m ⟨S,a2,an,LV,ey,rfl,cb,bi,R,bn⟩;simp only[aaM]at cb bi R bn;have eP:=R.sz;have Y:∀b,b<a.size+1+1+1->m.get b=h'.get b:=λb q=>(bi b J (.inl q)).trans (by rw[dS,aq J]);have ef:=(Y a.size J).trans C;have P:=(Y (a.size+1) J).trans D;have al:=(Y (a.size+1+1) J).trans f;have eL:(a.size=m.size)=False:=dz;have eh:(a.size+1=m.size)=False:=dz;have eo:(a.size+1+1=m.size)=False:=dz;have b8:Nb a m:=⟨⟨R.hp,R.low,J⟩,λb q=>(Y b J).trans (p.get b q)⟩;have c7:∀c,(dZ m (a.size+1+1) c).get (a.size+1+1)=some c:=λc=>(dN al c _).trans (ar rfl);simp[Ci,R.low,dX];cases ey with
  |false=>
   simp[v,al,eo,dX,c7,show a.size+1+1<m.size by omega];exact Ei ok ((b8.put al J _).cons _)
  |true=>
   have⟨t2,eE⟩:=bn rfl;simp[F,G,v,M,P,eh,dX,di,show a.size+1<m.size by omega];have e:∀b,b<a.size+1+1+1->b≠a.size+1->((dZ m (a.size+1) (dE 4 (T+1) [.agg [Z S.pC,a2,an,Z S.dL]])).cons (dE 4 1 [.agg [Z S.pC,a2,an,Z S.dL]])).get b=m.get b:=λb eA aE=>by rw[dS,aq dz,dN P,aq aE]
   refine⟨S,a2,an,LV,T+1,cb.mono (aw _) dy λb q aE=>?_,(b8.put P J _).cons _,dz,(e _ J J).trans ef,?_,(e _ J J).trans al,⟨by rw[t2.rl];exact n.rl,by rw[t2.tl];exact n.rl,t2.tn⟩,by rw[eE];exact ap⟩
   ·rw[dS,aq dz,dN P,aq J]
   ·rw[dS,aq dz,dN P,ar rfl]
 ·rintro z h' ⟨r,I,K,X,T,⟨aX,p,ec,C,D,f,n,ap⟩,F,G,v,M⟩;have E:∀c,(dZ h' (a.size+1+1) c).get (a.size+1+1)=some c:=λc=>(dN f c _).trans (ar rfl);have dk:((b.jm.length:Int)+1<=b.jm.length)=False:=dz;simp[F,v,M,C,f,E,dX,dk];exact Ei ok (p.put f J _)
 ·simp;exact⟨d,a1,o,es1,1,eB,b7,by have:=b7.ok.sz;have:=H.fh a7;omega,c4,c6,a7,⟨rfl,J,tb.tn⟩,rfl⟩
def xu:List Int:=[3,3,4,4,5,6,7,8,9,10,11,12,13,14,15,16,18,19,20,21,22,23,2]
def mS(a:Int):Int:=if a<6\/28<a then 0 else xu.getD (a-6).toNat 0
def yZ:gG:=⟨Int,λa=>[Z a],λa=>True,λa=> Z (mS a),λa c b=>by simp at b;rw[b]⟩
def Qc:yZ.Ok prog cx 202:=by
 refine fZ [] (iX 1037 [] func202) (λl=>1) (by simp[yZ]) ?_;rintro(b:Int) m n f;simp[yZ]at f|-;by_cases h:b<6\/28<b
 ·have d:mS b=0:=by unfold mS;rw[ar h]
  rcases h with h|h<;>simp[f202,f,h,d]
 ·have⟨a,i⟩:∃a:Nat,b=(a:Int)+6:=⟨(b-6).toNat,J⟩;subst i;have g:a<23:=J;have⟨e,d⟩:∃e,xu[a]? =some e:=⟨_,az (show a<xu.length from g)⟩;have c:(xu.map (T.int .i64))[a]? =some (Z e):=by rw[aS,d];rfl
  have j:mS ((a:Int)+6)=e:=by
   unfold mS;rw[aq h,show((a:Int)+6-6).toNat=a by omega];simp[List.getD,d]
  have k:binop .sub (Z ((a:Int)+6)) (Z 6)=some (Z (a:Int)):=by rw[kU J J];congr 2;omega
  simp only[xu,aP,bI]at c;have⟨_,c⟩:=List.getElem?_eq_some_iff.1 c;simp[f202,f,show¬(a:Int)+6<6 by omega,show¬(28:Int)<(a:Int)+6 by omega,k,g,c,j]
def Ug{b:fJ}(ht:b.p 202=some yZ)(a:Int):rl prog cx b 202 [Z a]=some (Z (mS a)):=im ht Qc a trivial
structure Yw(c:jR)(s:iQ):Prop where
 v:Rg c
 f:kZ c.em s.fj=true
 cl:s.cells.length=c.em.cells.length
 fu:s.ee.length=c.em.ee.length
 th:s.dH.length=c.dH.length
 t:∀(i:Nat) (t:eJ) (x:gh),s.dH[i]? =some t->c.dH[i]? =some x->0<=t.pC/\t.pC<x.jm.length/\t.iZ.length=x.iZ/\t.kf.length=x.iZ
def I3{a:jR}(b:Rg a):a.em.gF.length<=2/\a.dH.length<=4:=by
 have:=b.1;unfold j8 sY at this;simp only[aB,aO]at this;have c:=b.2.1;omega
def Il:nS prog cx 201 (λh:jR×iQ=>[h.1.t,h.2.t]) (λh=>∀a∈h.1.dH,a.jm.length<=10000001) (λh=>NK (Yw h.1 h.2)):=by
 refine jh [(88,xl.jv),(67,rG)] (iX 158456325028530997355645763711 [] func201) (λ_=>100) (λh b g=>by simp at g;exact aC (jR.inj g.1) (iQ.inj g.2)) ?_;rintro⟨f,l⟩ x m F;replace x:∀a∈f.dH,a.jm.length<=10000001:=x;simp at F;obtain⟨D,E⟩:=F;obtain⟨_,⟨b,rfl,N⟩,C⟩:=xl.use f x;cases b with
 |false=>simp[f201,D,E,C]
 |true=>
  have G:=N rfl;have⟨X,Y⟩:=I3 G;simp[f201,D,E,C,tK,show f.em.gF.length<=1099511627776 by omega];refine ej (λB=>?_) (λB=>?_)
  ·simp
  simp only[cz,cH,aO]at B;obtain⟨⟨⟨R,U⟩,V⟩,W⟩:=B;simp;generalize q:(hE.cons _).cons _=w;have Q:il 2 w:=by rw[<-q];exact⟨dy,dy,dy⟩
  have j:w.get 0=some (dE 7 0 [f.t]):=by rw[<-q];simp
  have n:w.get 1=some (dE 7 0 [l.t]):=by rw[<-q];simp
  clear q;refine fD f.dH.length J (λe m g=>il 2 g/\g.get 0=some (dE 7 0 [f.t])/\g.get 1=some (dE 7 0 [l.t])/\(∀(d:Nat) (c:eJ) (a:gh),d<e->l.dH[d]? =some c->f.dH[d]? =some a->0<=c.pC/\c.pC<a.jm.length/\c.iZ.length=a.iZ/\c.kf.length=a.iZ)/\dF m 2 (.ptr 0 0 0 0)/\dF m 3 (.ptr 1 0 0 0)/\dF m 5 (Z e)) ?_ ?_ J ?_
  ·rintro e m g z M ⟨i,j,n,A,o,v,p⟩;have I:=i.ne (b:=0) J;have P:=i.ne (b:=1) J;have y:e<l.dH.length:=J;have⟨c,ht⟩:∃c,l.dH[e]? =some c:=⟨_,az y⟩;have⟨a,k⟩:∃a,f.dH[e]? =some a:=⟨_,az z⟩;have K:l.dH[e]=c:=by rw[az y]at ht;simpa using ht
   have L:f.dH[e]=a:=by rw[az z]at k;simpa using k
   simp[j,n,o,v,p,z,y,I,i.low,K,L];refine ej (λu=>?_) (λu=>?_)
   ·simp[i.hp]
   simp only[cz,cH,aO,bU]at u;simp[o,v,p,M];refine⟨i.cons _,by simpa[I]using j,by simpa[P]using n,λd S T O r s=>?_⟩;rcases aR d e with H|H
   ·exact A d S T H r s
   ·have:d=e:=J;subst this;rw[ht]at r;rw[k]at s;simp only[au]at r s;subst r s;exact⟨J,J,u.1.2,u.2⟩
  ·rintro m g ⟨i,j,n,A,o,v,p⟩;simp[j,o,p,i.hp];exact⟨G,R,J,J,J,λd c a ht k=>A d c a (List.getElem?_eq_some_iff.1 k).1 ht k⟩
  ·exact⟨Q,j,n,λd c a O=>by omega,dy⟩
def Ik:nS prog cx 238 (λa:Int×Int=>[Z a.1,Z a.2]) (λa=>True) (λ_=>FR):=by
 refine jh [] (iX 4275 [] func238) (λ_=>10) (λa i b=>by simp at b;exact aC b.1 b.2) ?_;rintro⟨k,f⟩ _ j d;simp at d;obtain⟨g,c⟩:=d;by_cases e:f<1
 ·simp[f238,c,e]
 ·simp[f238,g,c,e,CZ (show¬f=0 by omega)];refine ej (λh=>?_) (λh=>?_)<;>simp[c,oG]
def Yr(a:fR)(b:eJ):Prop:=(a.op=7\/a.op=9)->iN a.c b.iZ.length=true
def Dp:nS prog cx 203 (λb:fR×eJ=>[b.1.t,b.2.t]) (λb=>Yr b.1 b.2) (λ_=>FR):=by
 refine jh [(238,Ik.jv)] (iX 1099578740959 [(6,[(1,10)]),(8,[(1,10)])] func203) (λ_=>10) (λb w i=>by simp at i;exact aC (fR.inj i.1) (eJ.inj i.2)) ?_;rintro⟨a,v⟩ d x o;replace d:Yr a v:=d;simp at o;obtain⟨j,k⟩:=o;have⟨s,f⟩:=Ik.fnI (γ:=Int×Int) id (λ_=>trivial);have f:∀{r:fJ},r.p 238=some (wR prog cx 238 (λb:Int×Int=>[Z b.1,Z b.2]) (λb=>True) (λ_=>FR))->∀h g,rl prog cx r 238 [Z h,Z g]=some (Z (s (h,g))):=λht h g=>f ht (h,g);cases c:decide (a.op=7)with
 |true=>
  have⟨u,hr,_⟩:=iD (d (.inl (by simpa using c)));have n:=eG (eZ.1 (d (.inl (by simpa using c)))).1;have m:decide (a.op=6)=false:=by
   have:a.op=7:=by simpa using c
   exact aM J
  have l:decide (a.op=27)=false:=by
   have:a.op=7:=by simpa using c
   exact aM J
  simp[f203,j,k,c,m,l,hr,n,f,oG]
 |false=>
  cases e:decide (a.op=9)with
  |true=>
   have⟨u,hr,_⟩:=iD (d (.inr (by simpa using e)));have n:=eG (eZ.1 (d (.inr (by simpa using e)))).1;have m:decide (a.op=6)=false:=by
    have:a.op=9:=by simpa using e
    exact aM J
   have l:decide (a.op=27)=false:=by
    have:a.op=9:=by simpa using e
    exact aM J
   simp[f203,j,k,c,e,m,l,hr,n,f,oG]
  |false=>
   simp[f203,j,k]
   repeat' (refine ej (λq=>?_) (λq=>?_)<;>simp[q,c,e])
def Mx{a:H}(h:il 0 a)(b:List Int)(hl:b.length<=1000000):∃f c,iU cx a 39 39 dD (sl (ge b))=some (.val f c)/\Gr c f 1 (ge b)/\Nb a c/\(∀d,dT f=some d->a.size<=d)/\(c=a\/c=a.cons ⟨1,0,0,false,false,ge b⟩):=by
 unfold iU pX nc;simp only[j9,ed,show qm.u= .slice 3 from rfl,mY,QU];cases b with
 |nil=>exact⟨_,_,rfl,Gr.nil _ _,Nb.refl h,λd e=>by simp at e,.inl rfl⟩
 |cons g b=>
  refine⟨.arr a.size 0 0 (ge (g::b)).length false,a.cons ⟨1,0,0,false,false,ge (g::b)⟩,?_,Gr.new (ep:=0) (ver:=0) (ex:=false) dy,(Nb.refl h).cons _,λd e=>by simp at e;omega,.inr rfl⟩;rw[nq (by simp[T.cells]),iH];show jI (a.jo 1 8 [] (ge (g::b)))=_;rw[pq (by simp[T.cells]) dB (by simp at hl|-;omega)];rfl
structure PeP(c:jR)(s:iQ)(th:Int)(e:ez)(t:eJ)(x:gh)(i:fR):Prop where
 f:Yw c s
 n:iN th c.dH.length=true
 ht:s.dH[th.toNat]? =some t
 hx:c.dH[th.toNat]? =some x
 hi:x.jm[t.pC.toNat]? =some i
 k:e.kind=1\/e.kind=17\/(e.kind=mS i.op/\e.kind≠0)
def aaF(a:Nat)(c:iQ):Prop:=∀d∈c.dH,∀b∈d.kf,b.length<=a
def evN(a:Nat)(b:ez):Prop:=b.mo.length<=a/\b.uF.length<=a
def WB(c:jR)(f:iQ)(h:Int)(e:T):Prop:=∃(a:ez) (b:Bool),e= .tuple [a.t,.bool b]/\evN 1000000 a/\(b=true->∃g i d,PeP c f h a g i d)
def II{f:jR}{m:iQ}(g:Yw f m){d:Int}(h:iN d f.dH.length=true):∃b a c,kt d=some d.toNat/\m.dH[d.toNat]? =some b/\f.dH[d.toNat]? =some a/\kt b.pC=some b.pC.toNat/\a.jm[b.pC.toNat]? =some c/\b.iZ.length=a.iZ/\b.kf.length=a.iZ/\(∀e∈jb c,0<=e/\e<a.iZ)/\a.iZ<=32:=by
 have⟨a,i,_⟩:=iD h;have j:=h;rw[<-g.th]at j;have⟨b,ht,_⟩:=iD j;have⟨p1,p2,p3,p4⟩:=g.t _ _ _ ht i;have⟨c,k⟩:∃c,a.jm[b.pC.toNat]? =some c:=⟨_,az J⟩;have l:=g.v.2.2 a (ay i);exact⟨b,a,c,eG (eZ.1 h).1,ht,i,eG p1,k,p3,p4,λe hr=>l.2.2 c (ay k) e hr,l.2.1⟩
structure PJ(th:Int)(t:eJ)(i:fR)(o:Int)(h':H)(dv:T)(d:List Int)(ver:Nat):Prop where
 ok:il 6 h'
 b2:h'.get 2=some (dE 7 0 [.agg [Z 0,Z 0,Z 0,Z 0,Z 0,dD,dD]])
 b3:h'.get 3=some (dE 4 1 [t.t])
 b4:h'.get 4=some (dE 6 1 [i.t])
 b5:h'.get 5=some (dE 7 ver [.agg [Z th,Z (mS i.op),Z o,Z 0,Z i.jk,dv,dD]])
 g:Gr h' dv 1 (ge d)
 l:d.length<=1000000
 bx:∀c,dT dv=some c->6<=c
def PJ.app{p:Int}{t:eJ}{j:fR}{o:Int}{h:H}{q:Nat}(e:PJ p t j o h dD [] q)(k:List Int)(hl:k.length<=1000000):∃c b,iU cx h 39 39 dD (sl (ge k))=some (.val c b)/\c.iy=true/\c.cells=[c]/\(∀a,a<6->b.get a=h.get a)/\il 6 b/\
 ∀d,d=((dE 7 (q+1) [.agg [Z p,Z (mS j.op),Z o,Z 0,Z j.jk,c,dD]]):iY)->PJ p t j o (dZ b 5 d) c k (q+1):=by
 have w:=e.ok.sz;have⟨c,b,u,m,l,r,_⟩:=Mx ⟨e.ok.hp,e.ok.low,ax _⟩ k hl;have f:∀a,a<6->b.get a=h.get a:=λa i=>l.get a J;have s:il 6 b:=⟨l.ok.hp,l.ok.low,aT w l.ok.sz⟩;have v:=(f 5 J).trans e.b5;have g:∀d a,(dZ b 5 d).get a=if a=5 then some d else b.get a:=λd a=>dN v d a;refine⟨c,b,u,m.iy,m.cells,f,s,?_⟩;rintro d rfl;exact⟨s.put _ _,by rw[g,aq J];exact(f 2 J).trans e.b2,by rw[g,aq J];exact(f 3 J).trans e.b3,by rw[g,aq J];exact(f 4 J).trans e.b4,by rw[g,ar rfl],m.mono λa i=>by rw[g,aq (by have:=r a i;omega)],hl,λa i=>by have:=r a i;omega⟩
def AF:nS prog cx 156 (λn:jR×iQ×Int=>[n.1.t,n.2.1.t,Z n.2.2]) (λn=>(∀x∈n.1.dH,x.jm.length<=10000001)/\aaF 1000000 n.2.1) (λn=>WB n.1 n.2.1 n.2.2):=by
 refine jh [(201,Il.jv),(202,yZ),(203,Dp.jv)] (iX 10633824283312870803151638865622599647 [(11,[(2,8),(4,8),(6,8)]),(14,[(2,3),(2,4)])] func156) (λ_=>100) (λn b U=>by simp at U;exact aC (jR.inj U.1) (aC (iQ.inj U.2.1) U.2.2)) ?_;rintro⟨d,s,p⟩ ⟨bS,b7⟩ L bH;simp only at bS b7;simp at bH;obtain⟨dd,aX,I⟩:=bH;obtain⟨_,⟨b,rfl,bN⟩,bs⟩:=Il.use (d,s) bS;simp only at bN bs;have a6:WB d s p (.tuple [ez.t ⟨0,0,0,0,0,[],[]⟩,.bool false]):=⟨_,_,rfl,⟨dy,dy⟩,dy⟩;simp[f156,dd,aX,I,bs];refine ej (λa7=>?_) (λa7=>?_)
 ·simp;exact a6
 simp only[cz,cH,bU]at a7;obtain⟨⟨rfl,cL⟩,er⟩:=a7;have W:=bN rfl;have a8:iN p d.dH.length=true:=eZ.2 ⟨J,J⟩;have⟨y,x,e,b8,bi,b9,ds,ca,ec,ef,cb,eh⟩:=II W a8;have dm:iN p s.fj.dH.length=true:=by
  rw[(kr W.f).2.2,<-W.v.2.1];exact a8
 have⟨u,c4,_⟩:=iD dm;simp[I,b8,bi,b9,ds,ca,c4];have Y:∀z:ez,evN 1000000 z->(z.kind=1\/z.kind=17\/(z.kind=mS e.op/\z.kind≠0))->WB d s p (.tuple [z.t,.bool true]):=λz aX I=>⟨z,true,rfl,aX,λ_=>⟨y,x,e,W,a8,bi,b9,ca,I⟩⟩;refine ej (λcL=>?_) (λcL=>?_)
 ·simp[I];exact Y ⟨p,1,-1,0,-1,[],[]⟩ ⟨dy,dy⟩ (.inl rfl)
 cases av:decide (u.ij=4)with
 |true=>
  simp[I,av,b8,c4];exact Y ⟨p,17,u.cond,0,e.jk,[],[]⟩ ⟨dy,dy⟩ (.inr (.inl rfl))
 |false=>
 cases bn:decide (u.ij=2)with
 |false=>
  simp[av,bn];exact a6
 |true=>
  have b6:∀r∈jb e,iN r y.kf.length=true:=λr hr=>by have:=cb r hr;exact eZ.2 ⟨J,J⟩
  have di:Yr e y:=λk=>by
   have hr:e.c∈jb e:=by unfold jb;rcases k with k|k<;>simp[k]
   have:=cb _ hr;exact eZ.2 ⟨J,J⟩
  obtain⟨_,⟨N,rfl⟩,bu⟩:=Dp.use (e,y) di;simp only at bu;simp[av,bn,Ug,bu];refine ej (λF=>?_) (λF=>?_)
  ·simp;exact a6
  have bT:mS e.op≠0:=by simpa using F
  simp;generalize K:H.cons _ _=D;have ae:il 6 D:=by rw[<-K];exact⟨dy,dy,dy⟩
  have c6:D.get 2=some (dE 7 0 [.agg [Z 0,Z 0,Z 0,Z 0,Z 0,dD,dD]]):=by rw[<-K];simp
  have Q:D.get 3=some (dE 4 1 [y.t]):=by rw[<-K];simp
  have R:D.get 4=some (dE 6 1 [e.t]):=by rw[<-K];simp
  have w:∃ap,D.get 5=some (dE 7 ap [.agg [Z p,Z (mS e.op),Z N,Z 0,Z e.jk,dD,dD]]):=⟨3,by rw[<-K];simp⟩;clear K;obtain⟨ea,w⟩:=w;have al:∀{r:Int},r∈jb e->∃j,kt r=some r.toNat/\y.kf[r.toNat]? =some j/\j.length<=1000000:=λ{r} hr=>by
   have⟨j,hl,_⟩:=iD (b6 r hr);exact⟨j,eG (eZ.1 (b6 r hr)).1,hl,b7 y (ay bi) j (ay hl)⟩
  have eo:il 0 D:=⟨ae.hp,ae.low,ax _⟩;have eu:=ae.sz;have X:PJ p y e N D dD [] ea:=⟨ae,c6,Q,R,w,Gr.nil _ _,dy,λd F=>by simp at F⟩;refine ll (λL h'=>∃T G ap,PJ p y e N h' T G ap/\dF L 6 (.ptr 2 0 0 0)/\dF L 8 (.ptr 3 0 0 0)/\dF L 9 (.ptr 4 0 0 0)/\dF L 10 (.ptr 5 0 0 0)) (λc1=>?_) (λc1=>?_) ?_
  ·have V:e.op=10:=by simpa using c1
   have⟨j,l1,l2,l3⟩:=al (r:=e.a) (by unfold jb;simp[V]);have⟨an,o,C,P,O,A,cp,fin⟩:=X.app j l3;have sv:=λd (m:d<6)=>fG (A d m);have B:=(A 5 J).trans w;simp[Q,R,w,l1,l2,C,P,O,B,dX];exact⟨_,_,_,fin _ rfl⟩
  ·cases S:decide (e.op=7)with
   |true=>
    have⟨j,l1,l2,l3⟩:=al (r:=e.c) (by unfold jb;simp[show e.op=7 by simpa using S]);have⟨an,o,C,P,O,A,cp,fin⟩:=X.app j l3;have sv:=λd (m:d<6)=>fG (A d m);have B:=(A 5 J).trans w;simp[S,Q,R,w,l1,l2,C,P,O,B,dX];exact⟨_,_,_,fin _ rfl⟩
   |false=>
   cases aA:decide (e.op=9)with
   |true=>
    have⟨j,l1,l2,l3⟩:=al (r:=e.c) (by unfold jb;simp[show e.op=9 by simpa using aA]);have⟨an,o,C,P,O,A,cp,fin⟩:=X.app j l3;have sv:=λd (m:d<6)=>fG (A d m);have B:=(A 5 J).trans w;simp[S,aA,Q,R,w,l1,l2,C,P,O,B,dX];exact⟨_,_,_,fin _ rfl⟩
   |false=>
    simp[S,aA];exact⟨_,_,_,X⟩
  rintro L h' ⟨T,G,ap,i,bB,de,bC,V⟩;have et:=i.ok.sz;have dv:il 0 h':=⟨i.ok.hp,i.ok.low,ax _⟩;simp[bC,i.b4];refine ej (λF=>?_) (λF=>?_)
  ·have dk:e.op=8\/e.op=9\/e.op=26:=by
    simp only[bY,aO]at F;omega
   have⟨j,l1,l2,l3⟩:=al (r:=e.b) (by unfold jb;rcases dk with k|k|k<;>simp[k]);have⟨an,o,C,g,E,c7,_⟩:=Mx dv j l3;have sv:=λd (m:d<6)=>fG (E.get d J);have eb:=(E.get 2 J).trans i.b2;have B:=(E.get 5 J).trans i.b5;have M:∀h d,(dZ o 5 h).get d=if d=5 then some h else o.get d:=λh d=>dN B h d;have aN:∀h q d,(dZ (dZ o 5 h) 2 q).get d=if d=2 then some q else if d=5 then some h else o.get d:=λh q d=>by
    rw[mL (by simp;exact E.ok.hp) (by have:=E.ok.sz;simp;omega),M]
   have aE:∀h q,TI.fz (dZ (dZ o 5 h) 2 q) T=some (sl (ge G)):=λh q=>(i.g.mono (h':=dZ (dZ o 5 h) 2 q) λd m=>by
    have⟨_,_,_,_,dn,_⟩:=i.g.box m;have:=i.bx d m;rw[aN,aq J,aq J];exact E.get d (H.fh dn)).fz dy
   have c9:∀h q,TI.fz (dZ (dZ o 5 h) 2 q) an=some (sl (ge j)):=λh q=>(g.mono (h':=dZ (dZ o 5 h) 2 q) λd m=>by
    have:=c7 d m;rw[aN,aq J,aq J]).fz dy
   simp[bB,de,bC,V,i.b3,i.b4,i.b5,l1,l2,C,g.iy,g.cells,eb,B,M,aN,aE,c9,dX,E.ok.hp];exact Y ⟨p,mS e.op,N,0,e.jk,G,j⟩ ⟨i.l,l3⟩ (.inr (.inr ⟨rfl,bT⟩))
  ·have M:∀h d,(dZ h' 2 h).get d=if d=2 then some h else h'.get d:=λh d=>dN i.b2 h d;have aE:∀h,TI.fz (dZ h' 2 h) T=some (sl (ge G)):=λh=>(i.g.mono (h':=dZ h' 2 h) λd m=>by
    have:=i.bx d m;rw[M,aq J]).fz dy
   simp[bB,V,i.b2,i.b5,M,aE,dX,i.ok.hp];exact Y ⟨p,mS e.op,N,0,e.jk,G,[]⟩ ⟨i.l,dy⟩ (.inr (.inr ⟨rfl,bT⟩))
structure UH(n0:Nat)(h':H)(ct:T)(es:List T)(ts:List eJ)(lo hi:Nat->Nat):Prop where
 g:Gr h' ct 4 es
 l:es.length=ts.length
 e:∀(i:Nat) (e:T) (t:eJ),es[i]? =some e->ts[i]? =some t->∃a b el,e=Ci t a b/\BC (lo i) (hi i) h' a b el t
 m:∀i,i<ts.length->n0<=lo i/\hi i<=h'.size
 d:∀i j,i<j->j<ts.length->hi i<=lo j
 c:∀c,dT ct=some c->n0<=c/\∀i,i<ts.length->¬(lo i<=c/\c<hi i)
def UH.mono{j:Nat}{f h':H}{k:T}{n:List T}{s:List eJ}{q h:Nat->Nat}(b:UH j f k n s q h)(C:f.size<=h'.size)(p:∀a,j<=a->a<f.size->h'.get a=f.get a):UH j h' k n s q h:=
 ⟨b.g.mono λa r=>p a (b.c a r).1 (by have⟨_,_,_,_,z,_⟩:=b.g.box r;exact H.fh z),b.l,λi v B A o=>by
   have⟨t,u,y,w,x⟩:=b.e i v B A o;have D:=b.m i (by have:=(List.getElem?_eq_some_iff.1 o).1;exact this);exact⟨t,u,y,w,x.mono (aw _) (aw _) λa E F=>p a J J⟩,λi h=>by have:=b.m i h;omega,b.d,b.c⟩
def UH.app{y:Nat}{o r D:H}{v B:T}{w:List T}{i:List eJ}{F h:Nat->Nat}(f:UH y o v w i F h)(W:y<=o.size)(G:Nb o r){s t:T}{C:List T}{u:eJ}(U:BC o.size r.size r s t C u)(x:Xt r v 4 (w++[Ci u s t]) B D):
 UH y D B (w++[Ci u s t]) (i++[u]) (λa=>if a=i.length then o.size else F a) (λa=>if a=i.length then r.size else h a):=by
 have Y:=G.ok.sz;have ae:=x.2.2.2.sz;have A:∀b,dT v=some b->b<o.size:=λb q=>by have⟨_,_,_,_,Q,_⟩:=f.g.box q;exact H.fh Q
 refine⟨x.1,by simp[f.l],λa M V p k=>?_,λa h=>?_,λa E R S=>?_,λb q=>?_⟩
 ·by_cases q:a=i.length
  ·subst q;rw[cV (aw _),Nat.sub_self]at k;rw[cV (by rw[f.l];exact aw _),f.l,Nat.sub_self]at p;simp at p k;subst p;subst k;refine⟨s,t,C,rfl,?_⟩;simp only[bA];exact U.mono (aw _) (aw _) λb I z=>x.2.1 b z λq=>by have:=A b q;omega
  ·have h:a<i.length:=by have:=(List.getElem?_eq_some_iff.1 k).1;simp at this;omega
   rw[cK h]at k;rw[cK (by rw[f.l];exact h)]at p;have⟨K,L,P,N,O⟩:=f.e a M V p k;have X:=f.m a h;rw[aq q,aq q];exact⟨K,L,P,N,O.mono (aw _) (aw _) λb I z=>(x.2.1 b J λq=>((f.c b q).2 a h ⟨I,z⟩)).trans (G.get b J)⟩
 ·simp at h;by_cases q:a=i.length
  ·rw[ar q,ar q];omega
  ·rw[aq q,aq q];have:=f.m a J;omega
 ·simp at S;by_cases q:E=i.length
  ·rw[aq J,ar q];have:=f.m a J;omega
  ·rw[aq J,aq q];exact f.d a E R J
 ·rcases x.2.2.1 b q with q|q
  ·refine⟨(f.c b q).1,λa h=>?_⟩;simp at h;by_cases j:a=i.length
   ·rw[ar j,ar j];have:=A b q;omega
   ·rw[aq j,aq j];exact(f.c b q).2 a J
  ·refine⟨J,λa h=>?_⟩;simp at h;by_cases j:a=i.length
   ·rw[ar j,ar j];omega
   ·rw[aq j,aq j];have:=f.m a J;omega
def Jk{b f:Type}{c:f->b->Prop}{d:b->f}(e:∀x,c (d x) x):∀a:List b,iM c (a.map d) a
 | []=> .nil
 |x::a=> .cons (e x) (Jk e a)
def Wx(a:iQ)(d:List T)(c:H):Prop:=d=[a.t]/\il 0 c/\Ft a.fj [a.fj.t] c/\a.cells.length<=1000000/\a.ee.length<=1000000/\a.dH.length<=1000000/\∀b∈a.dH,b.iZ.length<=1000000/\b.kf.length<=1000000/\∀e∈b.kf,e.length<=1000000
structure Cp9(s:iQ)(h h':H)(c0 c2 c3 cc cf ct:T)(es:List T)(lo hi:Nat->Nat)(n0:Nat):Prop where
 nb:Nb h h'
 z:h.size<=n0
 zn:n0<=h'.size
 k0:c0.iy=true/\c0.cells=[c0]/\c2.iy=true/\c2.cells=[c2]/\c3.iy=true/\c3.cells=[c3]
 gc:Gr h' cc 1 (ge s.cells)
 gf:Gr h' cf 1 (ge s.ee)
 bc:∀c,dT cc=some c->h.size<=c/\c<n0
 bf:∀c,dT cf=some c->h.size<=c/\c<n0/\dT cc≠some c
 th:UH n0 h' ct es s.dH lo hi
def Pz(g:iQ)(o:List T)(i:H)(n:T)(j:H):Prop:=∃a b c d e f h l k m,n= .agg [a,Z g.fj.tx,b,c,d,e,f]/\Cp9 g i j a b c d e f h l k m
structure Cq(s:iQ)(h:H)(c0 c2 c3 cc cf:T)(q:Nat)(h':H)(k:Nat)(ct:T)(es:List T)(lo hi:Nat->Nat)(ver:Nat):Prop where
 nb:Nb h h'
 b1:h'.get h.size=some (dE 7 0 [s.t])
 b2:h'.get (h.size+1)=some (dE 7 0 [.agg [dD,Z 0,dD,dD,dD,dD,dD]])
 b3:h'.get q=some (dE 7 ver [.agg [c0,Z s.fj.tx,c2,c3,cc,cf,ct]])
 gc:Gr h' cc 1 (ge s.cells)
 gf:Gr h' cf 1 (ge s.ee)
 th:UH (q+1) h' ct es (s.dH.take k) lo hi
def Qq:(jM iQ Wx Pz).Ok prog cx 176:=by
 refine jB (tb:=⟨pt [],ht [(46,jM fq Ft JZ),(219,jM ICp Pm JY)]⟩) iR iE (iX 2097183 [(1,[(2,3),(2,5),(2,7),(6,7),(2,9),(6,9),(2,12),(6,12),(10,12)]),(5,[(1,7)])] func176) (λ_ _=>1000005) (λw r d eS=>by obtain⟨rfl,_⟩:=eS;simp[f176]) ?_;rintro h _ d ⟨rfl,e4,⟨_,_,p1,p2,p3,p4⟩,gg,gi,gk,eW⟩ M dm;simp at dm;have cp:=e4.hr;simp[f176,dm];generalize G:H.cons _ _=F;have e7:il 0 F:=by rw[<-G];exact(cp.cons _).cons _
 have gV:F.size=d.size+1+1:=by rw[<-G];rfl
 have e0:Nb d F:=by rw[<-G];exact⟨(((Nb.refl cp).cons _).cons _).ok,λa k=>((((Nb.refl cp).cons _).cons _).get a k).trans (ik d a)⟩
 have c4:F.get d.size=some (dE 7 0 [h.t]):=by rw[<-G];simp
 have c6:F.get (d.size+1)=some (dE 7 0 [.agg [dD,Z 0,dD,dD,dD,dD,dD]]):=by rw[<-G];simp
 clear G;refine mF Du dy h.fj ⟨rfl,e7,p1,p2,p3,p4⟩ ?_;rintro _ b ⟨s,u,v,fC,rfl,L,E⟩;have gE:=E.ok.sz;have ds:il 0 b:=⟨E.ok.hp,E.ok.low,ax _⟩;have a1:=(E.get d.size J).trans c4;have a2:=(E.get (d.size+1) J).trans c6;have⟨al,X,bB,⟨gy,gB,bC⟩,eu,V,okB⟩:=kq (cx:=cx) (sz:=1) ds (x:=sl (h.cells.map (T.int .i64))) (xs:=h.cells.map (T.int .i64)) pi rfl zR pi rfl rfl dy dy (by simp[T.cells]) dz;have⟨an,N,ae,⟨gz,gD,ap⟩,fv,I,cb⟩:=kq (cx:=cx) (sz:=1) okB (x:=sl (h.ee.map (T.int .i64))) (xs:=h.ee.map (T.int .i64)) pi rfl zR pi rfl rfl dy dy (by simp[T.cells]) dz;have dd:∀a,a<b.size->fk (b.cons (dE 1 0 [])) X a=true:=λa k=>fG ((V a k).trans (by rw[dS,aq J]));have de:∀a,a<X.size->fk (X.cons (dE 1 0 [])) N a=true:=λa k=>fG ((I a k).trans (by rw[dS,aq J]));have ef:=fG (E.get d.size J);have eo:=dd d.size J;have e8:=de d.size J;have er:∀a,b.size+1<=a->fk (b.cons (dE 1 0 [])) X a=true:=λa k=>jf (lz _ dz);have et:∀a,b.size+2<=a->fk (X.cons (dE 1 0 [])) N a=true:=λa k=>jf (lz _ dz);have c1:∀a,b.size<=a->fk F b a=true:=λa k=>jf (lz _ J);have bu:=(V d.size J).trans a1;have c7:=(I d.size J).trans bu;have c9:=(I (d.size+1) J).trans ((V (d.size+1) J).trans a2);have gm:=ds.low;have gn:=okB.low;have gv:=cb.low;simp only[aH]at bB ae bC ap;rw[eu]at ae ap;have fo:(d.size=b.size)=False:=dz;have gI:(d.size+1=b.size)=False:=dz;have fs:(d.size=b.size+1)=False:=dz;have gM:(d.size+1=b.size+1)=False:=dz;have eh:=c1 (b.size+1+1) J;have eP:s.iy=true/\s.cells=[s]/\u.iy=true/\u.cells=[u]/\v.iy=true/\v.cells=[v]:=⟨L.g0.iy,L.g0.cells,L.g2.iy,L.g2.cells,L.g3.iy,L.g3.cells⟩;obtain⟨eC,eD,eE,eF,eH,eI⟩:=eP;simp[MQ,a1,bB,ae,eu,fv,bu,ef,eo,c1,er,et,fo,fs,eh];have gw:d.size+1<b.size+1+1:=J;have fA:N.size=b.size+1+1:=J;generalize S:N.cons ⟨7,0,0,true,false,_⟩=R;have fl:R.size=b.size+1+1+1:=by rw[<-S];simp[size_cons,fA]
 have e6:il 0 R:=by rw[<-S];exact il.cons ⟨cb.hp,cb.low,ax _⟩ _
 have bH:R.get (b.size+1+1)=some (dE 7 0 [.agg [dD,Z 0,dD,dD,dD,dD,dD]]):=by
  rw[<-S,dS,ar J]
 have dn:∀a,a<b.size+1+1->R.get a=N.get a:=λa k=>by rw[<-S,dS,aq J]
 generalize U:dZ R _ _=D;have gS:D.size=b.size+1+1+1:=by rw[<-U,fK,fl]
 have ea:il 0 D:=by rw[<-U];exact e6.put _ _
 have eL:=(show D.get (b.size+1+1)=some (dE 7 1 [.agg [s,Z h.fj.tx,u,v,.arr b.size al 0 h.cells.length false,.arr (b.size+1) an 0 h.ee.length false,dD]])by rw[<-U];exact(dN bH _ _).trans (ar rfl));have K:∀a,a<b.size+1+1->D.get a=N.get a:=λa k=>by rw[<-U,dN bH,aq J];exact dn a k
 clear U S;have bN:Gr D (.arr b.size al 0 h.cells.length false) 1 (ge h.cells):=by
  have:=Gr.new (((K b.size J).trans (I b.size J)).trans bC);simpa using this
 have bS:Gr D (.arr (b.size+1) an 0 h.ee.length false) 1 (ge h.ee):=by
  have:=Gr.new ((K (b.size+1) J).trans ap);simpa using this
 have eX:Nb d D:=⟨⟨ea.hp,ea.low,J⟩,λa k=>(K a J).trans ((I a J).trans ((V a J).trans ((E.get a J).trans (e0.get a k))))⟩;have ey:=(K d.size J).trans c7;have eA:=(K (d.size+1) J).trans c9;have Y:∀a,dT (.arr b.size al 0 h.cells.length false)=some a->a=b.size:=λa i=>by simpa using i.symm
 have O:∀a,dT (.arr (b.size+1) an 0 h.ee.length false)=some a->a=b.size+1:=λa i=>by simpa using i.symm
 generalize T.arr b.size al 0 h.cells.length false=B at*
 generalize T.arr (b.size+1) an 0 h.ee.length false=C at*
 have a8:∀a,dT B=some a->d.size<=a/\a<b.size+1+1+1:=λa i=>by have:=Y a i;omega
 have bi:∀a,dT C=some a->d.size<=a/\a<b.size+1+1+1/\dT B≠some a:=λa i=>⟨by have:=O a i;omega,by have:=O a i;omega,λcL=>by have:=Y a cL;have:=O a i;omega⟩;have eb:∀a,dT B=some a->a≠b.size+1+1/\a≠d.size+1:=λa i=>by have:=Y a i;omega
 have ec:∀a,dT C=some a->a≠b.size+1+1/\a≠d.size+1:=λa i=>by have:=O a i;omega
 clear Y O bB ae bC ap ef eo e8 c1 er et eh V I dd de bu c7 c9 a1 a2 c4 c6 K dn bH;generalize b.size+1+1=i at*
 have fE:=bN.iy;have fL:=bN.cells;have fS:=bS.iy;have fY:=bS.cells;refine Ce h.dH.length (λo M h'=>∃p Q a7 aX W,Cq h d s u v B C i h' o p Q a7 aX W/\dF M 1 (.ptr d.size 0 0 0)/\dF M 2 (.ptr (d.size+1) 0 0 0)/\dF M 3 (.ptr i 0 0 0)/\dF M 4 (Z o)) ?_ J (ax _) ?_
 ·rintro o M h' gj ⟨p,Q,a7,aX,W,f,bT,di,aE,b6⟩;simp[bT,b6,f.b1];refine ej (λb7=>?_) (λb7=>?_)
  ·have b8:o<h.dH.length:=by simpa using b7
   have⟨m,a6⟩:∃m,h.dH[o]? =some m:=⟨_,az b8⟩;have eR:h.dH[o]=m:=by rw[az b8]at a6;simpa using a6
   have ca:=eW m (ay a6);simp[bT,aE,b6,f.b1,f.b3,b8,eR];have e5:il 0 h':=⟨f.nb.ok.hp,f.nb.ok.low,ax _⟩;refine mF Io dy ⟨m,sl (ge m.iZ),sl (m.kf.map tn1),m.kf.map tn1⟩ ⟨by rfl,⟨.inl rfl,.inl rfl,?_,?_⟩,e5,ca.1,ca.2.1,ca.2.2⟩ ?_
   ·exact Jk (λl=> .inl rfl) _
   ·rintro e a (rfl|rfl|he) x
    ·simp at x
    ·simp at x
    ·obtain⟨l,_,rfl⟩:=List.mem_map.1 he;simp[tn1]at x
   rintro _ aA ⟨r,A,fB,rfl,fi,q⟩;have cL:i+1<=h'.size:=by have:=H.fh f.b3;omega
   have p3:=(q.get i J).trans f.b3;have eM:Gr aA p 4 Q:=f.th.g.mono λa x=>q.get a (by have⟨_,_,_,_,g,_⟩:=f.th.g.box x;exact H.fh g);have⟨bn,aN,eB,z⟩:=eM.Ht (cx:=cx) ⟨q.ok.hp,q.ok.low,ax _⟩ L8 rfl L5 rfl dy (x:=Ci m r A) rfl (by have:=f.th.l;simp at this;simp;omega);have fe:=fG (q.get i J);have fb:∀a,a<aA.size->dT p≠some a->fk (aA.cons (dE 4 0 [Ci m r A])) aN a=true:=λa k b9=>fG ((z.2.1 a k b9).trans (by rw[dS,aq J]));have bs:dT p≠some i:=λx=>by have:=(f.th.c i x).1;omega
   have e9:=fb i (by have:=q.ok.sz;omega) bs;have p4:=(z.2.1 i (by have:=q.ok.sz;omega) bs).trans p3;have eN:(Ci m r A).iy=true/\(Ci m r A).cells=[Z m.pC,r,A,Z m.dL]:=by simp[Ci,T.cells]
   have gd:Ci m r A= .agg [Z m.pC,r,A,Z m.dL]:=rfl;simp[aE,b6,eB,fe,eN,e9,p4,z.1.iy,z.1.cells,dX];rw[iL J J];simp;refine⟨o+1,J,J,⟨bn,Q++[Ci m r A],λw=>if w=(h.dH.take o).length then h'.size else a7 w,λw=>if w=(h.dH.take o).length then aA.size else aX w,W+1,?_⟩,bT,di,aE,dy⟩;have gP:=z.2.2.2.sz;have gQ:=q.ok.sz;have gq:∀a,a<h'.size->a≠i->dT p≠some a->(dZ aN i (dE 7 (W+1) [.agg [s,Z h.fj.tx,u,v,B,C,bn]])).get a=h'.get a:=λa k eU b9=>by
    rw[dN p4,aq eU,z.2.1 a J b9,q.get a k]
   have P:∀a,a<=i->dT p≠some a:=λa k x=>by have:=(f.th.c a x).1;omega
   have dv:il 0 aN:=⟨z.2.2.2.hp,z.2.2.2.low,ax _⟩;refine⟨⟨⟨(dv.put _ _).hp,(dv.put _ _).low,by rw[fK];have:=f.nb.ok.sz;omega⟩,λa k=>(gq a J J (P a J)).trans (f.nb.get a k)⟩,
    (gq _ J J (P _ J)).trans f.b1,(gq _ J J (P _ J)).trans f.b2,(dN p4 _ _).trans (ar rfl),
    f.gc.mono λa x=>gq a (by have:=a8 a x;omega) (eb a x).1 (P a (by have:=a8 a x;omega)),f.gf.mono λa x=>gq a (by have:=bi a x;omega) (ec a x).1 (P a (by have:=bi a x;omega)),?_⟩
   have ff:=(f.th.app cL q fi z).mono (h':=dZ aN i (dE 7 (W+1) [.agg [s,Z h.fj.tx,u,v,B,C,bn]])) (by rw[fK];exact aw _) λa x _=>by rw[dN p4,aq J]
   have eV:h.dH.take (o+1)=h.dH.take o++[m]:=by rw[dq,a6];rfl
   rw[eV];exact ff
  ·have eO:o=h.dH.length:=by
    have:¬o<h.dH.length:=by simpa using b7
    omega
   subst eO;have dk:=f.th;rw[aK]at dk;have bs:∀a,dT p=some a->i+1<=a:=λa x=>(f.th.c a x).1;simp[di,aE,f.b2,f.b3,dX,dN f.b2];have av:∀a,a≠d.size+1->(md d (dZ h' (d.size+1) (dE 7 1 [.agg [s,Z h.fj.tx,u,v,B,C,p]]))).get a=h'.get a:=λa k=>by rw[fV,dN f.b2,aq k]
   refine⟨s,u,v,B,C,p,Q,a7,aX,i+1,rfl,⟨⟨((il.put (n:=0) ⟨f.nb.ok.hp,f.nb.ok.low,ax _⟩ _ _).out d).hp,((il.put (n:=0) ⟨f.nb.ok.hp,f.nb.ok.low,ax _⟩ _ _).out d).low,by rw[ut,fK];exact f.nb.ok.sz⟩,λa k=>(av a J).trans (f.nb.get a k)⟩,J,by rw[ut,fK];exact H.fh f.b3,⟨eC,eD,eE,eF,eH,eI⟩,
    f.gc.mono λa x=>av a (eb a x).2,f.gf.mono λa x=>av a (ec a x).2,a8,bi,dk.mono (by rw[ut,fK];exact aw _) λa x _=>av a J⟩
 ·refine⟨dD,[],λ_=>0,λ_=>0,1,⟨eX,ey,eA,eL,bN,bS,⟨Gr.nil _ _,rfl,λw e m x=>by simp at x,λw x=>by simp at x,λw j x y=>by simp at y,λa x=>by simp at x⟩⟩,dy⟩
section
def RX{j:Out}{e f:iS}(o:W j e)(q:∀d h,e.n d h->f.n d h)(v:∀i d h,e.x i d h->f.x i d h)(u:∀d h,e.r d h->f.r d h):W j f:=by
 obtain⟨l,d,h,m,g⟩:=o;refine⟨l,d,h,m,?_⟩;cases l with
 |normal=>exact q d h g
 |exit i=>exact v i d h g
 |ret=>exact u d h g
def Js{cx:Ctx}{cf:jd}{z y id:Nat}{u:DL}{t:Bool}{a b:Code}{m:Env->H->Out}{d:Env}{h:H}{f:iS}(l:fW->H->Prop)(v:CK (some (.bool t)) cx cf z y u a b d h (GE m (sq id (yr (λd h=>d.tmps= .nil/\l d.vars h) f))))
 (B:∀o h,l o h->f.n ⟨o,.nil⟩ h):CK (some (.bool t)) cx cf z y u a b d h (GE m (sq id f)):=by
 have q:∀d h,(d.tmps= .nil/\l d.vars h)->f.n d h:=λd h ⟨e,w⟩=>by obtain⟨o,C⟩:=d;simp only at e w;subst e;exact B o h w
 have A:∀g,W g (sq id (yr (λd h=>d.tmps= .nil/\l d.vars h) f))->W g (sq id f):=λg r=>RX r q (λi d h e=>by
  rw[zv]at e|-;split
  ·rename_i j;rw[ar j]at e;exact q d h e
  ·rename_i j;rw[aq j]at e;exact e) λ_ _ e=>e
 have x:∀g,W g (GE m (sq id (yr (λd h=>d.tmps= .nil/\l d.vars h) f)))->W g (GE m (sq id f)):=λg r=>RX r (λd h e=>A _ e) (λi d h e=>by
  rw[Xj,zv]at e|-;split
  ·rename_i j;rw[ar j]at e;exact q d h e
  ·rename_i j;rw[aq j]at e;exact e) λ_ _ e=>e
 cases t
 ·exact x _ v
 ·exact x _ v
structure StI(s:iQ):Prop where
 l:s.fj.ei.length<=1000/\s.fj.done.length<=1000/\s.fj.dH.length<=1000/\s.cells.length<=1000/\s.ee.length<=1000/\s.dH.length<=1000
 r:Jo 4 s.fj
 a:s.fj.BB
 t:∀t∈s.dH,VQ 1000000 t
def XD(d:Nat)(s:iQ):Prop:=∀t∈s.dH,0<=t.dL/\t.dL<=d
def aaI(s:iQ)(j:T):Prop:=∃(d:iQ) (f:ez) (g:Bool),j= .tuple [d.t,f.t,.bool g]/\evN 1000000 f/\(g=true->StI d/\∀e:Nat,XD e s->XD (e+1) d)
def BC.LL{lo l hi j:Nat}{h h':H}{a b:T}{es:List T}{s:eJ}(t:BC lo hi h a b es s)(hl:l<=lo)(r:hi<=j)(f:∀e,(e=a\/e=b\/e∈es)->∀c,dT e=some c->h'.get c=h.get c):BC l j h' a b es s:=
 ⟨t.ga.mono λc d=>f a (.inl rfl) c d,t.gb.mono λc d=>f b (.inr (.inl rfl)) c d,t.el.imp_mem λm n u d=>⟨d.1.mono λc g=>f m (.inr (.inr n)) c g,λc g=>by
   have⟨v,w,o,q⟩:=d.2 c g;exact⟨J,J,o,q⟩⟩,λc d=>by have:=t.ba c d;exact⟨J,J,this.2.2⟩,λc d=>by have:=t.bb c d;exact⟨J,J⟩⟩
def BC.fzB{lo hi:Nat}{h:H}{a b:T}{es:List T}{s:eJ}(t:BC lo hi h a b es s)(o:Nat->Prop)(n:∀m,(m=a\/m=b\/m∈es)->∀c,dT m=some c->o c):iM (FT h o 3) [Z s.pC,a,b,Z s.dL] s.cs:=
 .cons (gW ..) (.cons ((show pY h 1 a (ge s.iZ)from .inr t.ga).ft (d:=1) (IH _) λc g=>n a (.inl rfl) c g)
  (.cons (t.gb.ft (λc g=>n b (.inr (.inl rfl)) c g) ((t.el.imp_mem (R':=λe j=>pY h 1 e (ge j)/\e∈es) λe q j l=>⟨l.1,q⟩).Xb (f:=λj=>sl (ge j)) λe j l=>l.1.ft (d:=0) (IH _) λc g=>n e (.inr (.inr l.2)) c g)) (.cons (gW ..) .nil)))
def CF{g j:Type}{l:g->j->Prop}:∀{e:List g} {f:List j},e.length=f.length->(∀(d:Nat) (a:g) (b:j),e[d]? =some a->f[d]? =some b->l a b)->iM l e f
 | [],[],_,_=> .nil
 |a::e,b::f,hl,h=> .cons (h 0 a b rfl rfl) (CF (by simpa using hl) λd o q m n=>h (d+1) o q (by simpa using m) (by simpa using n))
 | [],_::_,hl,_=>by simp at hl
 |_::_,[],hl,_=>by simp at hl
structure SJ(c:jR)(s:iQ)(ch:fX)(i:fR)(S:fq)(k p n0:Nat)(cc cf ct:T)(es:List T)(lo hi:Nat->Nat)(a b:T)(el:List T)(t:eJ)(h:H):Prop where
 ok:il 0 h
 z:p+1+1<=h.size
 n7:7<=n0
 np:n0<=p
 b0:h.get 0=some (dE 7 0 [c.t])
 b1:h.get 1=some (dE 7 2 [.agg [sl (S.ei.map dR.t),Z S.tx,sl (S.done.map T.bool),sl (S.dH.map dJ.t),cc,cf,ct]])
 b2:h.get 2=some (dE 2 0 [ch.t])
 b3:h.get 3=some (dE 7 0 [.agg [dD,Z 0,dD,dD,dD,dD,dD]])
 b4:h.get 4=some (dE 7 0 [.agg [Z 0,Z 0,Z 0,Z 0,Z 0,dD,dD]])
 bq:h.get (p+1)=some (dE 6 1 [i.t])
 gc:∃l,Gr h cc 1 (ge l)/\l.length=s.cells.length
 gf:∃l,Gr h cf 1 (ge l)/\l.length=s.ee.length
 bc:∀c,dT cc=some c->7<=c/\c<n0
 bf:∀c,dT cf=some c->7<=c/\c<n0/\dT cc≠some c
 gt:Gr h ct 4 es
 l:es.length=s.dH.length
 m:∀j,j<s.dH.length->n0<=lo j/\hi j<=p
 d:∀i j,i<j->j<s.dH.length->hi i<=lo j
 bt:∀c,dT ct=some c->n0<=c/\c<p/\∀j,j<s.dH.length->¬(lo j<=c/\c<hi j)
 o:∀(j:Nat) (e:T) (u:eJ),j≠k->es[j]? =some e->s.dH[j]? =some u->FT h (λc=>lo j<=c/\c<hi j) 4 e u.t
 hk:k<s.dH.length
 ek:∃x y,es[k]? =some (.agg [Z x,a,b,Z y])
 tx:BC 7 h.size h a b el t
 xb:∀v,(v=a\/v=b\/v∈el)->∀c,dT v=some c->lo k<=c/\(c<hi k\/p+1<c)
section
variable {c:jR}{s:iQ}{ch:fX}{i:fR}{S:fq}{k p n0:Nat}{cc cf ct:T}{es:List T}{lo hi:Nat->Nat}{a b:T}{el Oq:List T}{t t':eJ}{h h':H}
def SJ.gen(e:SJ c s ch i S k p n0 cc cf ct es lo hi a b el t h)(L:il 0 h')(V:h.size<=h'.size)(u:∀c,c<h.size->c≠5->c≠p->dT cc≠some c->dT cf≠some c->dT a≠some c->dT b≠some c->h'.get c=h.get c)
 (D:∃r,Gr h' cc 1 (ge r)/\r.length=s.cells.length) (E:∃r,Gr h' cf 1 (ge r)/\r.length=s.ee.length) (M:BC 7 h'.size h' a b Oq t') (O:∀w,(w=a\/w=b\/w∈Oq)->∀c,dT w=some c->lo k<=c/\(c<hi k\/p+1<c)):
 SJ c s ch i S k p n0 cc cf ct es lo hi a b Oq t' h':=by
 have W:=e.z;have I:=e.n7;have K:=e.np;have R:=e.m k e.hk;have v:∀q,q<7->dT cc≠some q/\dT cf≠some q/\dT a≠some q/\dT b≠some q:=λq g=>⟨λf=>by have:=e.bc q f;omega,λf=>by have:=e.bf q f;omega,λf=>by have:=(e.tx.ba q f).1;omega,λf=>by have:=(e.tx.bb q f).1;omega⟩;have n:∀q,q<7->q≠5->h'.get q=h.get q:=λq g F=>u q J F J (v q g).1 (v q g).2.1 (v q g).2.2.1 (v q g).2.2.2;have j:∀q,dT a=some q\/dT b=some q->lo k<=q/\(q<hi k\/p+1<q):=λq f=>f.elim (λf=>e.xb a (.inl rfl) q f) λf=>e.xb b (.inr (.inl rfl)) q f;refine⟨L,J,I,K,(n 0 J J).trans e.b0,(n 1 J J).trans e.b1,(n 2 J J).trans e.b2,(n 3 J J).trans e.b3,(n 4 J J).trans e.b4,?_,D,E,e.bc,e.bf,e.gt.mono λq f=>?_,e.l,e.m,e.d,e.bt,λi C N x G A=>?_,e.hk,e.ek,M,O⟩
 ·refine(u (p+1) J J J (λf=>?_) (λf=>?_) (λf=>?_) λf=>?_).trans e.bq
  ·have:=e.bc _ f;omega
  ·have:=e.bf _ f;omega
  ·have:=j _ (.inl f);omega
  ·have:=j _ (.inr f);omega
 ·have B:=e.bt q f;have U:=B.2.2 k e.hk;refine u q J J J (λf=>?_) (λf=>?_) (λf=>?_) λf=>?_
  ·have:=e.bc _ f;omega
  ·have:=e.bf _ f;omega
  ·have:=j _ (.inl f);omega
  ·have:=j _ (.inr f);omega
 ·have y:i<s.dH.length:=(List.getElem?_eq_some_iff.1 A).1;have Q:=e.m i y;have P:hi i<=lo k\/hi k<=lo i:=by
   rcases Nat.lt_or_gt_of_ne x with q|q
   ·exact .inl (e.d i k q e.hk)
   ·exact .inr (e.d k i q y)
  refine(e.o i C N x G A).mono λq g=>⟨g,u q J J J (λf=>?_) (λf=>?_) (λf=>?_) λf=>?_⟩
  ·have:=e.bc _ f;omega
  ·have:=e.bf _ f;omega
  ·have:=j _ (.inl f);omega
  ·have:=j _ (.inr f);omega
def SJ.mono(d:SJ c s ch i S k p n0 cc cf ct es lo hi a b el t h)(y:il 0 h')(l:h.size<=h'.size)(g:∀c,c<h.size->c≠5->c≠p->h'.get c=h.get c):SJ c s ch i S k p n0 cc cf ct es lo hi a b el t h':=by
 have F:=d.z;have D:=d.n7;have E:=d.np;have C:=d.m k d.hk;have⟨l1,q,n⟩:=d.gc;have⟨l2,r,o⟩:=d.gf;refine d.gen y l (λc u v w _ _ _ _=>g c u v w) ⟨l1,q.mono λe f=>?_,n⟩ ⟨l2,r.mono λe f=>?_,o⟩ (d.tx.LL (aw _) l λB j e f=>?_) d.xb
 ·have:=d.bc e f;exact g e J J J
 ·have:=d.bf e f;exact g e J J J
 ·have:=d.xb B j e f;have x:e<h.size:=by
   rcases j with rfl|rfl|j
   ·exact(d.tx.ba e f).2.1
   ·exact(d.tx.bb e f).2
   ·have⟨_,A⟩:=d.tx.el.left j;exact(A.2 e f).2.1
  exact g e x J J 
def SJ.cell(e:SJ c s ch i S k p n0 cc cf ct es lo hi a b el t h){f n q:Nat}{o:Bool}{u:List T}(v:dT cc=some f)(w:h.get f=some ⟨1,n,q,o,false,u⟩)(g:Nat)(j:Int):SJ c s ch i S k p n0 cc cf ct es lo hi a b el t (dZ h f ⟨1,n,q+1,o,false,u.set g (Z j)⟩)/\∀d,d=5\/d=p->(dZ h f ⟨1,n,q+1,o,false,u.set g (Z j)⟩).get d=h.get d:=by
 have I:=e.n7;have K:=e.np;have F:=e.bc f v;have G:=e.m k e.hk;have⟨l1,A,y⟩:=e.gc;have⟨l2,B,z⟩:=e.gf;have l:∀d,(dZ h f ⟨1,n,q+1,o,false,u.set g (Z j)⟩).get d=if d=f then some ⟨1,n,q+1,o,false,u.set g (Z j)⟩else h.get d:=λd=>dN w _ d;refine⟨e.gen (e.ok.put _ _) (by rw[fK];exact aw _) (λd _ _ _ C _ _ _=>(l d).trans (aq λr=>C (by rw[r];exact v))) ⟨l1.set g j,?_,by simpa using y⟩ ⟨l2,B.mono λd r=>(l d).trans (aq λx=>(e.bf d r).2.2 (by rw[x];exact v)),z⟩ (e.tx.LL (aw _) (by rw[fK];exact aw _) λE D d r=>(l d).trans (aq λx=>?_)) e.xb,λd hr=>(l d).trans (aq J)⟩
 ·have:=A.setAt v w g (Z j) ((l f).trans (ar rfl));simpa[ge,br]using this
 ·have:=e.xb E D d r;omega
def SJ.fut(e:SJ c s ch i S k p n0 cc cf ct es lo hi a b el t h){f n q:Nat}{o:Bool}{u:List T}(v:dT cf=some f)(w:h.get f=some ⟨1,n,q,o,false,u⟩)(g:Nat)(j:Int):SJ c s ch i S k p n0 cc cf ct es lo hi a b el t (dZ h f ⟨1,n,q+1,o,false,u.set g (Z j)⟩)/\∀d,d=5\/d=p->(dZ h f ⟨1,n,q+1,o,false,u.set g (Z j)⟩).get d=h.get d:=by
 have I:=e.n7;have K:=e.np;have y:=e.bf f v;have G:=e.m k e.hk;have⟨l1,B,z⟩:=e.gc;have⟨l2,C,A⟩:=e.gf;have l:∀d,(dZ h f ⟨1,n,q+1,o,false,u.set g (Z j)⟩).get d=if d=f then some ⟨1,n,q+1,o,false,u.set g (Z j)⟩else h.get d:=λd=>dN w _ d;refine⟨e.gen (e.ok.put _ _) (by rw[fK];exact aw _) (λd _ _ _ _ D _ _=>(l d).trans (aq λr=>D (by rw[r];exact v))) ⟨l1,B.mono λd r=>(l d).trans (aq λx=>y.2.2 (by rw[<-x];exact r)),z⟩ ⟨l2.set g j,?_,by simpa using A⟩ (e.tx.LL (aw _) (by rw[fK];exact aw _) λF E d r=>(l d).trans (aq λx=>?_)) e.xb,λd hr=>(l d).trans (aq J)⟩
 ·have:=C.setAt v w g (Z j) ((l f).trans (ar rfl));simpa[ge,br]using this
 ·have:=e.xb F E d r;omega
end
def wG{d k:Int}(h:mS d=k)(f:k≠0):(k=3->d=6\/d=7)/\(k=4->d=8\/d=9)/\(k=5->d=10)/\(k=22->d=26)/\(k=23->d=27):=by
 have g:6<=d/\d<=28:=by
  unfold mS at h;split at h
  ·exact absurd h.symm f
  ·omega
 have e:d=6\/d=7\/d=8\/d=9\/d=10\/d=11\/d=12\/d=13\/d=14\/d=15\/d=16\/d=17\/d=18\/d=19\/d=20\/d=21\/d=22\/d=23\/d=24\/d=25\/d=26\/d=27\/d=28:=J;rcases e with rfl|rfl|rfl|rfl|rfl|rfl|rfl|rfl|rfl|rfl|rfl|rfl|rfl|rfl|rfl|rfl|rfl|rfl|rfl|rfl|rfl|rfl|rfl<;>simp[mS,xu]at h<;>omega
def Jv(p:Nat)(d:fW):Prop:=dF d 3 (.ptr 0 0 0 0)/\dF d 4 (.ptr 1 0 0 0)/\dF d 5 (.ptr 2 0 0 0)/\dF d 6 (.ptr 3 0 0 0)/\dF d 7 (.ptr 4 0 0 0)/\dF d 9 (.ptr 5 0 0 0)/\dF d 14 (.ptr p 0 0 0)/\dF d 15 (.ptr (p+1) 0 0 0)
def Ev9(d:ez)(h:H):Prop:=∃e f,h.get 5=some (dE 7 f [ez.t ⟨d.dP,d.kind,d.obj,e,d.jk,d.mo,d.uF⟩])
def Th9(p:Nat)(a b:T)(e f:Int)(h:H):Prop:=∃d,h.get p=some (dE 4 d [.agg [Z e,a,b,Z f]])
def SJ.M2{c:jR}{s:iQ}{ch:fX}{i:fR}{S:fq}{k p n0:Nat}{cc cf ct:T}{es:List T}{lo hi:Nat->Nat}{a b:T}{el:List T}{t:eJ}{h:H}(e:SJ c s ch i S k p n0 cc cf ct es lo hi a b el t h){u:iY}(j:h.get 5=some u){l m:Int}(ht:Th9 p a b l m h)(d:ez)(f:Int)(g:Nat):
 SJ c s ch i S k p n0 cc cf ct es lo hi a b el t (dZ h 5 (dE 7 g [ez.t ⟨d.dP,d.kind,d.obj,f,d.jk,d.mo,d.uF⟩]))/\Ev9 d (dZ h 5 (dE 7 g [ez.t ⟨d.dP,d.kind,d.obj,f,d.jk,d.mo,d.uF⟩]))/\Th9 p a b l m (dZ h 5 (dE 7 g [ez.t ⟨d.dP,d.kind,d.obj,f,d.jk,d.mo,d.uF⟩])):=by
 have v:=e.n7;have w:=e.np;obtain⟨r,o⟩:=ht;exact⟨e.mono (e.ok.put _ _) (by rw[fK];exact aw _) λq _ n _=>(dN j _ q).trans (aq n),⟨f,g,(dN j _ 5).trans (ar rfl)⟩,⟨r,(dN j _ p).trans ((aq J).trans o)⟩⟩
def afM(p:Nat)(ct:T)(m:Int)(h:H):Prop:=∃j d e l g n,h.get p=some (dE 4 n [.agg [Z j,d,e,Z l]])/\d.iy=true/\d.cells=[d]/\e.iy=true/\e.cells=[e]/\iM (FT h (λf=>f<h.size/\f≠p/\7<=f/\dT ct≠some f) 3) [Z j,d,e,Z l] (eJ.cs g)/\VQ 1000000 g/\(g.dL=m+1\/g.dL=0)
def Ie:nS prog cx 134 (λa:jR×iQ×fX=>[a.1.t,a.2.1.t,a.2.2.t]) (λa=>(∀x∈a.1.dH,x.jm.length<=10000001)/\StI a.2.1/\XD 999000 a.2.1) (λa=>aaI a.2.1):=by
 refine yL (tb:=⟨pt [(156,AF.jv),(51,qV)],ht [(176,jM iQ Wx Pz),(177,jM Yt Pi Dh)]⟩) iR iE (iX 12259964349774246101165194645239424850975965214878597119 [(41,[(1,2)])] func134) (λ_=>100) (λa b h=>by simp at h;exact aC (jR.inj h.1) (aC (iQ.inj h.2.1) (fX.inj h.2.2))) dy nl9 ?_;rintro⟨c,s,ch⟩ ⟨gw,I,gv⟩ bu hy;simp only at gw I gv;simp at hy;obtain⟨kD,ap,av⟩:=hy;have lg:aaF 1000000 s:=λt ht l hl=>((I.t t ht).tn l hl).1;obtain⟨_,⟨u,hQ,rfl,k9,hI⟩,hf⟩:=AF.use (c,s,ch.dP) ⟨gw,lg⟩;simp only at hf hI;have hH:aaI s (.tuple [iQ.t ⟨⟨[],0,[],[]⟩,[],[],[]⟩,ez.t ⟨0,0,0,0,0,[],[]⟩,.bool false]):=⟨_,_,_,rfl,⟨dy,dy⟩,dy⟩;simp[f134,kD,ap,av,hf];cases hQ with
 |false=>
  simp;exact hH
 |true=>
 have⟨t,x,i,Y⟩:=hI rfl;have⟨qi,qw⟩:=I3 Y.f.v;have lc:OM s.fj:=⟨by have:=I.l;omega,by have:=I.l;omega,by have:=I.l;omega,λl hl=>by have:=I.r.len I.a l hl;omega,I.a⟩;have hb:rl prog cx ⟨pt [(156,AF.jv),(51,qV)],ht [(176,jM iQ Wx Pz),(177,jM Yt Pi Dh)]⟩ 51 [c.em.t,s.fj.t,Z ch.dP,Z u.kind,Z u.obj,Z ch.vQ]=some (yH (c.em,s.fj,ch.dP,u.kind,u.obj,ch.vQ)):=
  im dy FK (c.em,s.fj,ch.dP,u.kind,u.obj,ch.vQ) ⟨dA,lc⟩
 cases gm:iG c.em s.fj ch.dP u.kind u.obj with
 |false=>
  simp[hb,yH,gm];exact hH
 |true=>
 simp[hb,yH,gm];generalize k5:eY c.em s.fj ch.dP u.kind u.obj ch.vQ=ib at*
 obtain⟨S,W⟩:=ib;simp;have hl:=I.l;generalize bS:H.cons _ _=b7;have hP:il 0 b7:=by rw[<-bS];exact⟨dy,dy,dy⟩
 have nA:b7.size=7:=by rw[<-bS];rfl
 have m4:b7.get 0=some (dE 7 0 [c.t]):=by rw[<-bS];simp
 have m5:b7.get 1=some (dE 7 0 [s.t]):=by rw[<-bS];simp
 have nk:b7.get 2=some (dE 2 0 [ch.t]):=by rw[<-bS];simp
 have nn:b7.get 3=some (dE 7 0 [.agg [dD,Z 0,dD,dD,dD,dD,dD]]):=by rw[<-bS];simp
 have nr:b7.get 4=some (dE 7 0 [.agg [Z 0,Z 0,Z 0,Z 0,Z 0,dD,dD]]):=by rw[<-bS];simp
 have nu:b7.get 5=some (dE 7 1 [u.t]):=by rw[<-bS];simp
 have nv:b7.get 6=some (dE 4 1 [S.t]):=by rw[<-bS];simp
 clear bS;refine iC Qq dy s ⟨rfl,hP,⟨rfl,hP,J,J,J,λl q=>by have:=I.r.len I.a l q;omega⟩,J,J,J,λU eo=>⟨by have:=(I.t U eo).rl;omega,by have:=(I.t U eo).tl;omega,λl q=>((I.t U eo).tn l q).1⟩⟩ ?_;rintro _ di ⟨nX,n1,n2,cc,cf,ct,es,lo,hi,n0,rfl,F⟩;have nw:=F.nb.ok.sz;have h8:=F.z;rw[nA]at nw h8;have a1:=(F.nb.get 1 J).trans m5;have ia:=(F.nb.get 6 J).trans nv;have a2:=(F.nb.get 2 J).trans nk;have a0:=(F.nb.get 0 J).trans m4;have⟨eP,oi,eR,dd,de,oj⟩:=F.k0;have p1:∀y,(dZ di 1 y).get 1=some y:=λy=>(dN a1 y _).trans (ar rfl);have p6:∀y,(dZ di 1 y).get 6=di.get 6:=λy=>(dN a1 y _).trans (aq J);simp[a1,dX,p1,p6,ia];generalize eD:dZ (dZ di 1 _) 1 _=B;have qE:B.size=di.size:=by rw[<-eD];simp
 have lE:il 0 di:=⟨F.nb.ok.hp,F.nb.ok.low,ax _⟩;have okB:il 0 B:=by rw[<-eD];exact(lE.put _ _).put _ _
 have hV:=(show B.get 1=some (dE 7 2 [.agg [sl (S.ei.map dR.t),Z S.tx,sl (S.done.map T.bool),sl (S.dH.map dJ.t),cc,cf,ct]])by rw[<-eD];exact(dN (p1 _) _ _).trans (ar rfl));have c6:∀k,k≠1->B.get k=di.get k:=λk b8=>by rw[<-eD,dN (p1 _),aq b8,dN a1,aq b8]
 clear eD p1 p6;have hS:=(c6 0 J).trans a0;have hW:=(c6 2 J).trans a2;have l9:=(c6 5 J).trans ((F.nb.get 5 J).trans nu);have lX:=(c6 3 J).trans ((F.nb.get 3 J).trans nn);have l7:=(c6 4 J).trans ((F.nb.get 4 J).trans nr);have M:=F.th.mono (h':=B) J λk b8 _=>c6 k J;have b8:=Y.n;rw[<-Y.f.th]at b8;have⟨e8,X⟩:=eZ.1 b8;have c4:=Y.ht;have gk:∃hg,es[ch.dP.toNat]? =some hg:=⟨_,az (by rw[M.l];exact X)⟩;obtain⟨hg,e0⟩:=gk;obtain⟨a,b,el,rfl,fl⟩:=M.e _ _ _ e0 c4;have⟨E,hh,h6,ext,h7,t1,t2,t3,t4⟩:=M.g.Bp (te:=Ln) rfl (i:=ch.dP.toNat) (by rw[M.l];exact X);rw[show es[ch.dP.toNat]'(by rw[M.l];exact X)=Ci t a b by rw[az (by rw[M.l];exact X)]at e0;simpa using e0]at t4;have ii:=okB.low;have nB:∀k,k<7->(k=B.size)=False:=λk b8=>by simp;omega
 have q4:∀k,k<7->(k=B.size+1)=False:=λk b8=>by simp;omega
 have aE:=Y.hx;have hG:=Y.hi;have⟨lT,pn,ps,pD⟩:=Y.f.t _ _ _ c4 aE;have ml:=eG lT;simp[hS,hV,hW,t2,t3,t4,Ci,ii,eG e8,nB,aE,hG,ml];have o5:B.size<B.size+1:=J;generalize eh:dZ ((B.cons _).cons _) (B.size+1) _=bi;have qL:bi.size=B.size+1+1:=by rw[<-eh,fK];rfl
 have lG:il 0 bi:=by rw[<-eh];exact((okB.cons _).cons _).put _ _
 have h3:bi.get B.size=some (dE 4 1 [.agg [Z t.pC,a,b,Z t.dL]]):=by rw[<-eh,mL ((okB.cons _).cons _).hp (by show _<B.size+1+1;omega),aq J,dS,aq (by show¬_=B.size+1;omega),dS,ar rfl]
 have mi:bi.get (B.size+1)=some (dE 6 1 [i.t]):=by rw[<-eh,mL ((okB.cons _).cons _).hp (by show _<B.size+1+1;omega),ar rfl]
 have hZ:∀k,k<B.size->bi.get k=B.get k:=λk b8=>by
  rw[<-eh,mL ((okB.cons _).cons _).hp (by show _<B.size+1+1;omega),aq J,dS,aq (by show¬_=B.size+1;omega),dS,aq J]
 clear eh;have r5:=(hZ 5 J).trans l9;have kk:∀y,(dZ bi 5 y).get 5=some y:=λy=>(dN r5 y _).trans (ar rfl);simp[h3,r5,oG,kk];have lS:il 0 (dZ bi 5 (dE 7 2 [ez.t ⟨u.dP,u.kind,u.obj,W,u.jk,u.mo,u.uF⟩])):=lG.put _ _;have eU:∀k,(dZ bi 5 (dE 7 2 [ez.t ⟨u.dP,u.kind,u.obj,W,u.jk,u.mo,u.uF⟩])).get k=_:=λk=>dN r5 _ k;have q3:(dZ bi 5 (dE 7 2 [ez.t ⟨u.dP,u.kind,u.obj,W,u.jk,u.mo,u.uF⟩])).size=bi.size:=fK ..;generalize dZ bi 5 (dE 7 2 [ez.t ⟨u.dP,u.kind,u.obj,W,u.jk,u.mo,u.uF⟩])=bn at*
 have oT:ch.dP.toNat<s.dH.length:=X;have⟨pu,qe,pa,_,gP,gQ,_,gS,_,_,h5,_⟩:=II Y.f Y.n;rw[c4]at gP;rw[aE]at gQ;simp only[au]at gP gQ;subst gP;subst gQ;rw[hG]at gS;simp only[au]at gS;subst gS;have eF:∀K:Int,u.kind=K->K≠1->K≠17->K≠0->mS i.op=K:=λK ap av a8 c1=>by
  rcases Y.k with q|q|q
  ·omega
  ·omega
  ·omega
 have gn:=gm;unfold iG at gn;simp only[aB]at gn;have e6:=gn.1.2;have hD:u.kind=3\/u.kind=4->iN u.obj s.cells.length=true:=λq=>by
  rw[Y.f.cl];unfold jE at e6;rcases q with q|q<;>simpa[q]using e6
 have hF:u.kind=22\/u.kind=23->iN u.obj s.ee.length=true:=λq=>by
  rw[Y.f.fu];unfold jE at e6;rcases q with q|q<;>simpa[q]using e6
 have hX:u.kind=3\/u.kind=23\/u.kind=5->0<=i.a/\i.a<x.iZ:=λq=>by
  refine h5 _ ?_;unfold jb;rcases q with q|q|q
  ·rcases(wG (eF 3 q J J J) J).1 rfl with k|k<;>simp[k]
  ·simp[(wG (eF 23 q J J J) J).2.2.2.2 rfl]
  ·simp[(wG (eF 5 q J J J) J).2.2.1 rfl]
 have hY:u.kind=4\/u.kind=22->0<=i.b/\i.b<x.iZ:=λq=>by
  refine h5 _ ?_;unfold jb;rcases q with q|q
  ·rcases(wG (eF 4 q J J J) J).2.1 rfl with k|k<;>simp[k]
  ·simp[(wG (eF 22 q J J J) J).2.2.2.1 rfl]
 have O:SJ c s ch i S ch.dP.toNat B.size n0 cc cf ct es lo hi a b el t bn:=by
  have bT:∀k,k<B.size->k≠5->bn.get k=B.get k:=λk ap av=>(eU k).trans ((aq av).trans (hZ k ap));have pb:=M.m _ X;have lC:n0<=B.size:=by have:=F.zn;omega
  refine⟨lS,J,h8,lC,(bT 0 J J).trans hS,(bT 1 J J).trans hV,(bT 2 J J).trans hW,(bT 3 J J).trans lX,(bT 4 J J).trans l7,?_,
   ⟨_,F.gc.mono λq x=>?_,dy⟩,⟨_,F.gf.mono λq x=>?_,dy⟩,λq x=>?_,λq x=>?_,M.g.mono λq x=>?_,M.l,M.m,M.d,λq x=>?_,λj u U e4 gk eo=>?_,X,⟨_,_,e0⟩,fl.LL J J λv e7 q x=>?_,λv e7 q x=>?_⟩
  ·exact(eU _).trans ((aq J).trans mi)
  ·have:=F.bc q x;exact(bT q J J).trans (c6 q J)
  ·have:=F.bf q x;exact(bT q J J).trans (c6 q J)
  ·have:=F.bc q x;omega
  ·have:=F.bf q x;exact⟨J,this.2.1,this.2.2⟩
  ·have⟨_,_,_,_,g,_⟩:=M.g.box x;have:=(M.c q x).1;exact bT q (H.fh g) J
  ·have⟨_,_,_,_,g,_⟩:=M.g.box x;exact⟨(M.c q x).1,H.fh g,(M.c q x).2⟩
  ·obtain⟨fv,fA,Oq,rfl,mm⟩:=M.e j u U gk eo;have lv:=M.m j (List.getElem?_eq_some_iff.1 eo).1;exact .inr (.inr ⟨_,_,rfl,(mm.mono (h':=bn) (aw _) (aw _) λq ap av=>bT q J J).fz _ λq ap av=>⟨ap,av⟩,rfl⟩)
  all_goals
   have hB:lo ch.dP.toNat<=q/\q<hi ch.dP.toNat:=by
    rcases e7 with rfl|rfl|e7
    ·have:=fl.ba q x;omega
    ·exact fl.bb q x
    ·have⟨_,w⟩:=fl.el.left e7;have:=w.2 q x;exact⟨this.1,this.2.1⟩
  ·exact bT q J J
  ·exact⟨hB.1,.inl hB.2⟩
 refine Js (λbu h=>Jv B.size bu/\(∃n,dF bu 16 (Z n))/\SJ c s ch i S ch.dP.toNat B.size n0 cc cf ct es lo hi a b el t h/\Ev9 u h/\Th9 B.size a b t.pC t.dL h) ?_ ?_
 ·have R:=(eU 5).trans (ar rfl);have ef:=(eU B.size).trans ((aq J).trans h3);have eN:Ev9 u bn:=⟨W,2,R⟩;have ca:Th9 B.size a b t.pC t.dL bn:=⟨1,ef⟩;cases n5:decide (u.kind=1)with
  |true=>
   simp[ef,Jv];exact⟨O,eN,ca⟩
  |false=>
  cases cp:decide (u.kind=16)with
  |true=>
   simp[cp,ef,Jv];exact⟨O,eN,ca⟩
  |false=>
  cases c7:decide (u.kind=2)with
  |true=>
   simp[cp,c7,ef,Jv];exact⟨O,eN,ca⟩
  |false=>
  cases c9:decide (u.kind=3)with
  |true=>
   have⟨l1,b6,b9⟩:=O.gc;have bs:=eZ.1 (hD (.inl (by simpa using c9)));have⟨p1,Q,bB⟩:=(show pY bn 1 cc (ge l1)from .inr b6).idx (te:=HA) rfl rfl (i:=u.obj.toNat) (x:= Z l1[u.obj.toNat]) (by simp[b9,bs.2]) rfl;simp[cp,c7,c9,R,O.b1,eG bs.1,Q,bB,Jv];exact O.M2 R ca u _ _
  |false=>
  cases eb:decide (u.kind=23)with
  |true=>
   have⟨l1,b6,b9⟩:=O.gf;have bs:=eZ.1 (hF (.inr (by simpa using eb)));have⟨p1,Q,bB⟩:=(show pY bn 1 cf (ge l1)from .inr b6).idx (te:=HA) rfl rfl (i:=u.obj.toNat) (x:= Z l1[u.obj.toNat]) (by simp[b9,bs.2]) rfl;simp[cp,c7,c9,eb,R,O.b1,eG bs.1,Q,bB,Jv];exact O.M2 R ca u _ _
  |false=>
  have fL:pY bn 1 a (ge t.iZ):= .inr O.tx.ga;have fi:∀x y:Int,mG (Z x) 0 [Z y]=some (Z y):=λx y=>rfl;cases ec:decide (u.kind=4)with
  |true=>
   have gM:=hY (.inl (by simpa using ec));have bs:=eZ.1 (hD (.inr (by simpa using ec)));have⟨p1,Q,bB⟩:=fL.idx (te:=HA) rfl rfl (i:=i.b.toNat) (x:= Z t.iZ[i.b.toNat]) (by simp[show i.b.toNat<t.iZ.length by omega]) rfl;have⟨aN,aX,t5⟩:=O.M2 R ca u t.iZ[i.b.toNat] 3;have de:=(dN R (dE 7 3 [ez.t ⟨u.dP,u.kind,u.obj,t.iZ[i.b.toNat],u.jk,u.mo,u.uF⟩]) 5).trans (ar rfl);simp[cp,c7,c9,eb,ec,R,ef,O.bq,eG gM.1,Q,bB,Jv];generalize dZ bn 5 (dE 7 3 [ez.t ⟨u.dP,u.kind,u.obj,t.iZ[i.b.toNat],u.jk,u.mo,u.uF⟩])=aA at*
   have⟨l1,b6,b9⟩:=aN.gc;have⟨q,an,mC,hj,m2,gD,gE,eI,eL⟩:=b6.Bp (te:=HA) rfl (i:=u.obj.toNat) (by simpa[b9]using bs.2);simp at eL;have⟨gB,eB⟩:=aN.cell gD eI u.obj.toNat t.iZ[i.b.toNat];simp[aN.b1,de,eG bs.1,gE,eI,eL,fi];obtain⟨gZ,ha,gz⟩:=aX;obtain⟨et,dn⟩:=t5;exact⟨gB,⟨gZ,ha,(eB 5 (.inl rfl)).trans gz⟩,et,(eB _ (.inr rfl)).trans dn⟩
  |false=>
  cases ey:decide (u.kind=22)with
  |true=>
   have gM:=hY (.inr (by simpa using ey));have bs:=eZ.1 (hF (.inl (by simpa using ey)));have⟨p1,Q,bB⟩:=fL.idx (te:=HA) rfl rfl (i:=i.b.toNat) (x:= Z t.iZ[i.b.toNat]) (by simp[show i.b.toNat<t.iZ.length by omega]) rfl;have⟨aN,aX,t5⟩:=O.M2 R ca u t.iZ[i.b.toNat] 3;have de:=(dN R (dE 7 3 [ez.t ⟨u.dP,u.kind,u.obj,t.iZ[i.b.toNat],u.jk,u.mo,u.uF⟩]) 5).trans (ar rfl);simp[cp,c7,c9,eb,ec,ey,R,ef,O.bq,eG gM.1,Q,bB,Jv];generalize dZ bn 5 (dE 7 3 [ez.t ⟨u.dP,u.kind,u.obj,t.iZ[i.b.toNat],u.jk,u.mo,u.uF⟩])=aA at*
   have⟨l1,b6,b9⟩:=aN.gf;have⟨q,an,mC,hj,m2,gD,gE,eI,eL⟩:=b6.Bp (te:=HA) rfl (i:=u.obj.toNat) (by simpa[b9]using bs.2);simp at eL;have⟨gB,eB⟩:=aN.fut gD eI u.obj.toNat t.iZ[i.b.toNat];simp[aN.b1,de,eG bs.1,gE,eI,eL,fi];obtain⟨gZ,ha,gz⟩:=aX;obtain⟨et,dn⟩:=t5;exact⟨gB,⟨gZ,ha,(eB 5 (.inl rfl)).trans gz⟩,et,(eB _ (.inr rfl)).trans dn⟩
  |false=>
  cases fC:decide (u.kind=5)with
  |false=>
   simp[cp,c7,c9,eb,ec,ey,fC,Jv];exact⟨O,eN,ca⟩
  |true=>
   have ff:=hX (.inr (.inr (by simpa using fC)));have⟨p1,Q,bB⟩:=fL.idx (te:=HA) rfl rfl (i:=i.a.toNat) (x:= Z t.iZ[i.a.toNat]) (by simp[show i.a.toNat<t.iZ.length by omega]) rfl;have⟨aN,aX,t5⟩:=O.M2 R ca u 1 3;have de:=(dN R (dE 7 3 [ez.t ⟨u.dP,u.kind,u.obj,1,u.jk,u.mo,u.uF⟩]) 5).trans (ar rfl);simp[cp,c7,c9,eb,ec,ey,fC,R,Jv];generalize dZ bn 5 (dE 7 3 [ez.t ⟨u.dP,u.kind,u.obj,1,u.jk,u.mo,u.uF⟩])=aA at*
   have⟨p1,Q,bB⟩:=(show pY aA 1 a (ge t.iZ)from .inr aN.tx.ga).idx (te:=HA) rfl rfl (i:=i.a.toNat) (x:= Z t.iZ[i.a.toNat]) (by simp[show i.a.toNat<t.iZ.length by omega]) rfl;obtain⟨et,dn⟩:=t5;have⟨hK,mA,t6⟩:=aN.M2 de ⟨et,dn⟩ u 0 4;have ih:=hK.bq;simp[dn,aN.bq,eG ff.1,Q,bB];refine ej (λq=>?_) (λq=>?_)
   ·simp[de,ih];exact⟨hK,mA,t6⟩
   ·simp;exact⟨aN,aX,et,dn⟩
 ·rintro bu h ⟨⟨a8,c1,aA,bC,bH,bN,a7,cL⟩,⟨ds,eW⟩,A,⟨v,aX,a6⟩,cb,an⟩;simp[bN,a6];have pm:=A.ok;refine ll (λbu h=>Jv B.size bu/\(∃n,dF bu 16 (Z n))/\∃Oq t',t'.pC=t.pC/\t'.dL=t.dL/\VQ 1000000 t'/\SJ c s ch i S ch.dP.toNat B.size n0 cc cf ct es lo hi a b Oq t' h/\Ev9 u h/\Th9 B.size a b t.pC t.dL h) (λG=>?_) (λG=>?_) ?_
  ·have ff:=hX (by simpa[or_assoc]using(by simpa using G:u.kind=3\/u.kind=23).elim .inl λq=> .inr (.inl q));have oV:el.length=t.kf.length:=A.tx.el.length;have k1:i.a.toNat<t.iZ.length:=J;have k2:i.a.toNat<el.length:=J;have⟨ae,j5,m0,j6,m3,eE,k3,gi,hA⟩:=A.tx.ga.Bp (te:=HA) rfl (i:=i.a.toNat) (by simpa using k1);simp at hA;have fi:∀x y:Int,mG (Z x) 0 [Z y]=some (Z y):=λx y=>rfl;have lB:=A.n7;have pd:=A.np;have o4:=A.z;have hC:=A.tx.ba ae eE;have o2:=A.xb a (.inl rfl) ae eE;have oW:=A.m _ A.hk;simp[bN,a7,cL,an,a6,A.bq,eG ff.1,k3,gi,hA,fi];generalize lu:iY.mk 1 j5 (m0+1) j6 false (m3.set i.a.toNat (Z v))=dv at*
   have eu:∀w,(dZ h ae dv).get w=if w=ae then some dv else h.get w:=λw=>dN gi dv w;have lD:il 0 (dZ h ae dv):=A.ok.put _ _;have qo:(dZ h ae dv).size=h.size:=fK ..;have jj:=(eu B.size).trans ((aq J).trans an);have jC:=(eu (B.size+1)).trans ((aq J).trans A.bq);have n9:=(eu 5).trans ((aq J).trans a6);generalize oE:dZ h ae dv=L at*
   have eV:Gr L b 1 el:=A.tx.gb.mono λw hr=>(eu w).trans (aq λx=>hC.2.2 (by rw[<-x];exact hr));have⟨al,eA,fo,eO,fs,dk,k6,eX,gj⟩:=(eV.mono (h':=L.cons (dE 1 0 [Z t.dL])) λw hr=>by rw[dS,aq (by have:=(A.tx.bb w hr).2;omega)]).Bp (te:=qm) rfl (i:=i.a.toNat) k2;have⟨n8,k8,mb⟩:=A.tx.el.get (az (show i.a.toNat<t.kf.length by omega));have mj:=JO (x:= .arr L.size 0 0 1 false) mb.1.na;replace gj:=gj.trans ((az _).symm.trans k8);have k7:b= .arr al eA 0 el.length false:=by
    have⟨_,_,_,_,q,u⟩:=(eV.mono (h':=L.cons (dE 1 0 [Z t.dL])) λw hr=>by rw[dS,aq (by have:=(A.tx.bb w hr).2;omega)]).box dk;rw[eX]at q;simp at q;rw[u,q.1]
   simp[a7,cL,eW,jj,jC,eG ff.1,k6,eX,gj,mj];have oC:=A.tx.bb al dk;have o3:=A.xb b (.inr (.inl rfl)) al dk;have k4:ae≠al:=λq=>hC.2.2 (by rw[q];exact dk);have lR:il 0 (dZ (L.cons (dE 1 0 [Z t.dL])) al ⟨1,eA,fo+1,eO,false,fs.set i.a.toNat (.arr L.size 0 0 1 false)⟩):=(lD.cons _).put _ _;have q2:(dZ (L.cons (dE 1 0 [Z t.dL])) al ⟨1,eA,fo+1,eO,false,fs.set i.a.toNat (.arr L.size 0 0 1 false)⟩).size=h.size+1:=by rw[fK];show L.size+1=_;omega
   have eM:∀w,(dZ (L.cons (dE 1 0 [Z t.dL])) al ⟨1,eA,fo+1,eO,false,fs.set i.a.toNat (.arr L.size 0 0 1 false)⟩).get w=if w=al then some ⟨1,eA,fo+1,eO,false,fs.set i.a.toNat (.arr L.size 0 0 1 false)⟩else if w=L.size then some (dE 1 0 [Z t.dL])else if w=ae then some dv else h.get w:=λw=>(dN eX _ w).trans (by rw[dS,eu]);generalize dZ (L.cons _) al _=gd at*
   have kp:=(eV.mono (h':=L.cons (dE 1 0 [Z t.dL])) λw hr=>by rw[dS,aq (by have:=(A.tx.bb w hr).2;omega)]).setAt dk eX i.a.toNat (.arr L.size 0 0 1 false) (h':=gd) ((eM al).trans (ar rfl));have kn:=A.tx.ga.setAt eE gi i.a.toNat (Z v) (h':=gd) ((eM ae).trans ((aq k4).trans ((aq J).trans ((ar rfl).trans (by rw[lu])))));have ea:∀w,w<h.size->w≠ae->w≠al->gd.get w=h.get w:=λw ap av a8=>(eM w).trans ((aq a8).trans ((aq J).trans (aq av)));have jZ:∀w,dT a=some w->w=ae:=λw hr=>by rw[eE]at hr;simpa using hr.symm
   have j0:∀w,dT b=some w->w=al:=λw hr=>by rw[dk]at hr;simpa using hr.symm
   have oD:=gv t (ay c4);have gy:=I.t t (ay c4);have fe:∀w,dT a≠some w->dT b≠some w->w≠ae/\w≠al:=λw ap av=>⟨λx=>ap (by rw[x];exact eE),λx=>av (by rw[x];exact dk)⟩;refine⟨by simp[Jv,a8,c1,aA,bC,bH,bN,a7,cL],el.set i.a.toNat (.arr L.size 0 0 1 false),⟨t.pC,t.iZ.set i.a.toNat v,t.kf.set i.a.toNat [t.dL],t.dL⟩,rfl,rfl,⟨by simpa using gy.rl,by simpa using gy.tl,λl hl=>?_⟩,
    A.gen lR J (λw ap av a8 _ _ bC bH=>ea w ap (fe w bC bH).1 (fe w bC bH).2) ?_ ?_ ⟨by simpa[ge,br]using kn,kp,A.tx.el.set i.a.toNat ⟨.inr ?_,λw hr=>?_⟩ λu l q=>⟨q.1.mono λw hr=>?_,λw hr=>?_⟩,λw hr=>?_,λw hr=>?_⟩ λW hw w hr=>?_,⟨v,aX,(ea 5 J J J).trans a6⟩,cb,(ea _ J J J).trans an⟩
   ·rcases cm hl with q|rfl
    ·exact gy.tn l q
    ·exact⟨dy,λx aE=>by simp at aE;subst aE;omega⟩
   ·have⟨l1,eP,Q⟩:=A.gc;exact⟨l1,eP.mono λw hr=>by have:=A.bc w hr;exact ea w J J J,Q⟩
   ·have⟨l1,eP,Q⟩:=A.gf;exact⟨l1,eP.mono λw hr=>by have:=A.bf w hr;exact ea w J J J,Q⟩
   ·have:=Gr.new ((eM L.size).trans ((aq J).trans (ar rfl)));simpa using this
   ·simp at hr;subst hr;exact⟨J,J,λq=>by have:=jZ _ q;omega,λq=>by have:=j0 _ q;omega⟩
   ·have⟨X,hL,e9,fb⟩:=q.2 w hr;exact ea w hL (fe w e9 fb).1 (fe w e9 fb).2
   ·have⟨X,hL,e9,fb⟩:=q.2 w hr;exact⟨X,J,e9,fb⟩
   ·have:=A.tx.ba w hr;exact⟨this.1,J,this.2.2⟩
   ·have:=A.tx.bb w hr;exact⟨this.1,J⟩
   ·rcases hw with rfl|rfl|hw
    ·exact A.xb _ (.inl rfl) w hr
    ·exact A.xb _ (.inr (.inl rfl)) w hr
    ·rcases cm hw with q|rfl
     ·exact A.xb W (.inr (.inr q)) w hr
     ·simp at hr;subst hr;omega
  ·simp[Jv,a8,c1,aA,bC,bH,bN,a7,cL,eW];exact⟨el,t,rfl,rfl,I.t _ (ay c4),A,⟨v,aX,a6⟩,cb,an⟩
  rintro bu h ⟨⟨a8,c1,aA,bC,bH,bN,a7,cL⟩,⟨ds,eW⟩,Oq,t',o0,o1,er,A,⟨v,aX,a6⟩,cb,an⟩;have eC:∀y,(dZ h B.size y).get B.size=some y:=λy=>(dN an y _).trans (ar rfl);have hq:∀y,∀q,q<7->(dZ h B.size y).get q=h.get q:=λy q G=>(dN an y _).trans (aq J);have ho:∀y C,(dZ (dZ h B.size y) B.size C).get B.size=some C:=λy C=>(dN (eC y) C _).trans (ar rfl);have fY:∀y C,∀q,q<7->(dZ (dZ h B.size y) B.size C).get q=h.get q:=λy C q G=>(dN (eC y) C _).trans ((aq J).trans (hq y q G));simp[bN,a7,eW,a6,an,oG,dX,eC,fY];have k7:=gv t (ay c4);have lp:IntKind.i64.wrap (t.dL+1)=t.dL+1:=by rw[<-jA,jH J J]
  rw[lp];have Nt:il 0 (dZ (dZ h B.size (dE 4 (cb+1) [.agg [Z t.pC,a,b,Z (t.dL+1)]])) B.size ⟨4,0,cb+1+1,true,false,[.agg [Z ds,a,b,Z (t.dL+1)]]⟩):=(A.ok.put _ _).put _ _;have D:=A.mono Nt (by rw[fK,fK];exact aw _) λq _ _ G=>by rw[dN (eC _),aq G,dN an,aq G]
  have hd:=(fY (dE 4 (cb+1) [.agg [Z t.pC,a,b,Z (t.dL+1)]]) ⟨4,0,cb+1+1,true,false,[.agg [Z ds,a,b,Z (t.dL+1)]]⟩ 5 J).trans a6;have gI:=ho (dE 4 (cb+1) [.agg [Z t.pC,a,b,Z (t.dL+1)]]) ⟨4,0,cb+1+1,true,false,[.agg [Z ds,a,b,Z (t.dL+1)]]⟩;generalize dZ (dZ h B.size _) B.size _=hs at*
  clear eC hq ho fY A an a6;refine ll (λbu h=>Jv B.size bu/\SJ c s ch i S ch.dP.toNat B.size n0 cc cf ct es lo hi a b Oq t' h/\Ev9 u h/\afM B.size ct t.dL h) (λG=>?_) (λG=>?_) ?_
  ·have lm:=ay aE;simp[a8,aA,a7,D.b0,D.b2,eG e8,aE,gI];refine iC PT dy ⟨x,⟨ds,t'.iZ,t'.kf,t.dL+1⟩,a,b,Oq,7,hs.size,1000000⟩ ⟨rfl,D.tx.same rfl rfl,aw _,Nt,⟨er.rl,er.tl,er.tn⟩,aw _,gw x lm⟩ ?_;rintro _ hE ⟨U,hQ,rfl,gV,h4,q1,fE,hO⟩;have q0:=D.z;have hR:=(fE B.size J).trans gI;have fS:∀y,∀q,(dZ hE B.size y).get q=if q=B.size then some y else hE.get q:=λy q=>dN hR y q;simp[Jv,a8,c1,aA,bC,bH,bN,a7,cL,hR,dX];have h9:=D.mono (h':=hE) hO J λq G _ _=>fE q G;refine⟨h9.mono (hO.put _ _) (by rw[fK];exact aw _) λq _ _ G=>(fS _ q).trans (aq G),⟨v,aX,(fS _ 5).trans ((aq J).trans ((fE 5 J).trans hd))⟩,U.pC,sl (ge U.iZ),sl (U.kf.map tn1),U.dL,U,_,(fS _ _).trans (ar rfl),dy,dy,dy,dy,?_,gV,h4⟩;exact .cons (gW ..) (.cons (pF _ _ _ λx aE=>(IH _ x aE).1) (.cons (pF _ _ _ λx aE=>by obtain⟨l,_,rfl⟩:=List.mem_map.1 aE;simp[tn1]) (.cons (gW ..) .nil)))
  ·simp[Jv,a8,c1,aA,bC,bH,bN,a7,cL];refine⟨D,⟨v,aX,hd⟩,_,_,_,_,⟨ds,t'.iZ,t'.kf,t.dL+1⟩,_,gI,D.tx.ga.iy,D.tx.ga.cells,D.tx.gb.iy,D.tx.gb.cells,(D.tx.same (s':=⟨ds,t'.iZ,t'.kf,t.dL+1⟩) rfl rfl).fzB _ λW hw q x=>?_,⟨er.rl,er.tl,er.tn⟩,.inl rfl⟩;have qa:=D.xb W hw q x;have qb:=D.m _ D.hk;have qc:=D.n7;have m1:q<hs.size:=by
    rcases hw with rfl|rfl|hw
    ·exact(D.tx.ba q x).2.1
    ·exact(D.tx.bb q x).2
    ·have⟨_,w⟩:=D.tx.el.left hw;exact(w.2 q x).2.1
   exact⟨m1,J,J,λy=>by have:=D.bt q y;have:=this.2.2 _ D.hk;omega⟩
  rintro bu h ⟨⟨a8,c1,aA,bC,bH,bN,a7,cL⟩,A,⟨v,aX,a6⟩,hM,fv,fA,hN,U,pE,lW,ov,oA,eV,oB,mx,gV,h4⟩;have⟨E,hh,h6,ext,h7,t1,t2,t3,t4⟩:=A.gt.Bp (te:=Ln) rfl (i:=ch.dP.toNat) (by rw[A.l];exact X);have⟨hj,og,la⟩:=A.ek;replace t4:=t4.trans ((az _).symm.trans la);have nF:=A.bt E t1;have⟨l1,b6,b9⟩:=A.gc;have⟨l2,kB,lb⟩:=A.gf;generalize hJ:iY.mk 4 hh (h6+1) ext false (h7.set ch.dP.toNat (.agg [Z hM,fv,fA,Z hN]))=P;have hn:∀q,(dZ h E P).get q=if q=E then some P else h.get q:=λq=>dN t3 P q;have eS:∀q,q<7->(dZ h E P).get q=h.get q:=λq G=>(hn q).trans (aq J);have ic:=(eS 1 J).trans A.b1;have fB:=(eS 3 J).trans A.b3;have nE:=(eS 4 J).trans A.b4;have ie:=(eS 5 J).trans a6;have eR:∀y q,(dZ (dZ h E P) 3 y).get q=if q=3 then some y else if q=E then some P else h.get q:=λy q=>(dN fB y q).trans (by rw[hn]);have dd:∀y C q,(dZ (dZ (dZ h E P) 3 y) 4 C).get q=if q=4 then some C else if q=3 then some y else if q=E then some P else h.get q:=λy C q=>(dN ((eR y 4).trans ((aq J).trans ((aq J).trans A.b4))) C q).trans (by rw[eR]);have pc:(3=E)=False:=dz;have lw:(4=E)=False:=dz;have sv:∀y,fk (dZ h E P) (dZ (dZ h E P) 3 y) 5=true:=λy=>nd fB J y;have kb:∀y C,TI.fz (dZ (dZ (dZ h E P) 3 y) 4 C) cc=some (sl (ge l1)):=λy C=>(b6.mono (h':=dZ (dZ (dZ h E P) 3 y) 4 C) λq x=>by
   have:=A.bc q x;rw[dd,aq J,aq J,aq J]).fz dy
  have kd:∀y C,TI.fz (dZ (dZ (dZ h E P) 3 y) 4 C) cf=some (sl (ge l2)):=λy C=>(kB.mono (h':=dZ (dZ (dZ h E P) 3 y) 4 C) λq x=>by
   have:=A.bf q x;rw[dd,aq J,aq J,aq J]).fz dy
  have kg:∀y C,TI.fz (dZ (dZ (dZ h E P) 3 y) 4 C) ct=some (sl ((s.dH.set ch.dP.toNat U).map eJ.t)):=λy C=>by
   refine(A.gt.setAt t1 t3 ch.dP.toNat (.agg [Z hM,fv,fA,Z hN]) (h':=dZ (dZ (dZ h E P) 3 y) 4 C) (by rw[dd,aq J,aq J,ar rfl,hJ])).KF (V:=λ_=>True) (d:=4) J (CF (by simp[A.l]) λj x W eH hw=>?_);rw[aS]at hw;obtain⟨mq,dm,rfl⟩:=Option.map_eq_some_iff.1 hw;by_cases e4:j=ch.dP.toNat
   ·subst e4;rw[dt (by rw[A.l];exact X)]at eH;rw[dt X]at dm;simp at eH dm;subst eH;subst dm;exact .inr (.inr ⟨_,_,rfl,mx.imp λ_ _ k=>k.mono λq G=>⟨trivial,by rw[dd,aq J,aq J,aq (λx=>G.2.2.2 (by rw[x];exact t1))]⟩,rfl⟩)
   ·rw[du (λx=>e4 x.symm)]at eH dm;have lv:=A.m j (List.getElem?_eq_some_iff.1 dm).1;have lB:=A.n7;refine(A.o j x mq e4 eH dm).mono λq G=>⟨trivial,?_⟩;rw[dd,aq J,aq J,aq (λx=>(A.bt E t1).2.2 j (List.getElem?_eq_some_iff.1 dm).1 (by rw[<-x];exact G))]
  simp[c1,aA,bC,bH,bN,a7,A.b1,A.b2,eG e8,lW,t2,t3,t4,dX,hJ,ic,fB,ie,eR,dd,lw,A.b4,sv,kb,kd,kg,A.ok.hp];have gg:S=(eY c.em s.fj ch.dP u.kind u.obj ch.vQ).1:=by rw[k5]
  have e5:=vj c.em s.fj ch.dP u.kind u.obj ch.vQ;rw[<-gg]at e5;refine⟨⟨S,l1,l2,s.dH.set ch.dP.toNat U⟩,⟨u.dP,u.kind,u.obj,v,u.jk,u.mo,u.uF⟩,true,by simp[iQ.t,iQ.cs,br],k9,λ_=>⟨⟨⟨by rw[e5.1];omega,by rw[e5.2.1];omega,by rw[e5.2.2];omega,by rw[b9];omega,by rw[lb];omega,dz⟩,?_,?_,λW hw=>?_⟩,λN hv W hw=>?_⟩⟩
  ·rw[gg];refine EA I.r _ ⟨e8,?_⟩ _ _ _;have:=Y.f.th;omega
  ·rw[gg];exact vk I.a _ _ _ _ _
  ·rcases cm hw with q|rfl
   ·exact I.t W q
   ·exact gV
  ·rcases cm hw with q|rfl
   ·have:=hv W q;omega
   ·have:=hv t (ay c4);omega
end
end
def Sp9(f:H)(a:fq)(b c:List Int):Prop:=∃g d e,ny f 2 7 g [(sl (a.ei.map dR.t),none),(Z a.tx,none),(sl (a.done.map T.bool),none),(sl (a.dH.map dJ.t),none),(d,some (1,ge b)),(e,some (1,ge c)),(dD,none)]
structure Tt9(c:jR)(S:fq)(C F:List Int)(cc cf:T)(n1 k:Nat)(h:H)(ver:Nat)(ct:T)(es:List T)(ts:List eJ)(lo hi:Nat->Nat):Prop where
 ok:il 0 h
 n:3<=n1/\n1<=h.size
 b0:h.get 0=some (dE 7 0 [c.t])
 b1:h.get 1=some nO
 b2:h.get 2=some (dE 7 ver [.agg [sl (S.ei.map dR.t),Z S.tx,sl (S.done.map T.bool),sl (S.dH.map dJ.t),cc,cf,ct]])
 gc:Gr h cc 1 (ge C)
 gf:Gr h cf 1 (ge F)
 bx:∀q,dT cc=some q\/dT cf=some q->3<=q/\q<n1
 th:UH n1 h ct es ts lo hi
 l:ts.length=k
 t:∀t∈ts,VQ 1000000 t/\t.dL=0
def ael(b:T):Prop:=∃a:iQ,b=a.t/\StI a/\XD 0 a
def FB:nS prog cx 90 (λk:jR=>[k.t]) (λk=>∀x∈k.dH,x.jm.length<=10000001) (λ_=>ael):=by
 refine jh [(88,xl.jv),(87,uj)] (iX 4504699140047487 [] func90) (λ_=>1005) (λa b h=>by simp at h;exact jR.inj h) ?_;rintro k ea r Y;simp at Y;obtain⟨_,⟨b,rfl,bs⟩,b7⟩:=xl.use k ea;cases b with
 |false=>
  simp[f90,Y,b7];exact⟨⟨⟨[],0,[],[]⟩,[],[],[]⟩,rfl,⟨dy,λl hl=>by simp at hl,λl hl=>by simp at hl,λL ht=>by simp at ht⟩,λL ht=>by simp at ht⟩
 |true=>
  have W:=bs rfl;have aN:=kV W.1;obtain⟨e0,e4,e5,e6,e7,cb⟩:=aN;have eU:k.dH.length<=4:=by rw[W.2.1];exact cb
  simp[f90,Y,b7,Jd,show k.em.ei.length<=1000000 by omega,show k.em.ee.length<=1000000 by omega,show k.em.dH.length<=1000000 by omega];have bn:(lx k.em).ei.length=k.em.ei.length/\(lx k.em).done.length=k.em.ee.length/\(lx k.em).dH.length=k.em.dH.length:=by simp[lx]
  have dm:Jo 4 (lx k.em):=(vZ 4 k.em);have dn:(lx k.em).BB:=sX k.em;generalize lx k.em=o at*
  refine fD k.em.cells.length J (λs r h=>∃G,Sp9 h o G []/\G.length=s/\Lb 2 h 0 (dE 7 0 [k.t])/\Lb 2 h 1 nO/\dF r 1 (.ptr 0 0 0 0)/\dF r 2 (.ptr 1 0 0 0)/\dF r 3 (.ptr 2 0 0 0)/\dF r 4 (Z s)) ?_ ?_ J ?_
  ·rintro s r h Q ae ⟨G,⟨ver,I,K,u⟩,di,z,O,v,C,D,E⟩;have B:=u.get;simp at B;have⟨eE,h',U,y⟩:=(u.gr 4 rfl).mn (cx:=cx) (f:=T.int .i64) u.ok pi rfl zR rfl dy (λ_=>rfl) k.em.cells[s].jF dz;have⟨al,eu,bS⟩:=u.app 4 rfl y;have⟨R,an⟩:=bS _ rfl;simp only[aP,bI,cw,cq]at al R an;simp[v,C,D,E,Q,z.get,B,U,al,dX,y.1.iy,y.1.cells,ae];exact⟨G++[k.em.cells[s].jF],⟨_,_,_,an⟩,dz,z.step R,O.step R⟩
  ·rintro r h ⟨G,ey,di,z,O,v,C,D,E⟩;simp[v,E,z.get];refine fD k.em.ee.length J (λs r h=>∃F,Sp9 h o G F/\F.length=s/\Lb 2 h 0 (dE 7 0 [k.t])/\Lb 2 h 1 nO/\dF r 1 (.ptr 0 0 0 0)/\dF r 2 (.ptr 1 0 0 0)/\dF r 3 (.ptr 2 0 0 0)/\dF r 5 (Z s)) ?_ ?_ J ?_
   ·rintro s r h Q ae ⟨F,⟨ver,I,K,u⟩,bi,z,O,v,C,D,E⟩;have B:=u.get;simp at B;have⟨eE,h',U,y⟩:=(u.gr 5 rfl).mn (cx:=cx) (f:=T.int .i64) u.ok pi rfl zR rfl dy (λ_=>rfl) 0 dz;have⟨al,eu,bS⟩:=u.app 5 rfl y;have⟨R,an⟩:=bS _ rfl;simp only[aP,bI,cw,cq]at al R an;simp[v,C,D,E,Q,z.get,B,U,al,dX,y.1.iy,y.1.cells,ae];exact⟨F++[0],⟨_,_,_,an⟩,dz,z.step R,O.step R⟩
   ·rintro r h ⟨F,⟨ver,I,K,u⟩,bi,z,O,v,C,D,E⟩;simp[v,E,z.get];have B:=u.get;simp at B;have av:=u.gr 4 rfl;have aA:=u.gr 5 rfl;have c1:∀q,dT I=some q\/dT K=some q->3<=q/\q<h.size:=λq N=>by
     have bB:Fp h 2 q:=by
      rcases N with x|x
      ·exact u.Cu (f:=(I,some (1,ge G))) dy x
      ·exact u.Cu (f:=(K,some (1,ge F))) dy x
     refine⟨?_,u.fp q bB⟩;have cp:q≠0:=λx=>z.nf (by rw[<-x];exact bB);have eF:q≠1:=λx=>O.nf (by rw[<-x];exact bB);have e8:q≠2:=λx=>by
      subst x;rcases N with x|x
      ·have⟨_,_,_,_,P,_⟩:=av.box x;rw[B]at P;simp at P
      ·have⟨_,_,_,_,P,_⟩:=aA.box x;rw[B]at P;simp at P
     omega
    have eS:=H.fh B;have eP:=av.iy;have eM:=av.cells;have eR:=aA.iy;have eN:=aA.cells;refine fD k.dH.length J (λs r h'=>∃ver S a6 ap bH bC,Tt9 k o G F I K h.size s h' ver S a6 ap bH bC/\dF r 1 (.ptr 0 0 0 0)/\dF r 2 (.ptr 1 0 0 0)/\dF r 3 (.ptr 2 0 0 0)/\dF r 6 (Z s)) ?_ ?_ (by have:=W.2.1;have:=cb;omega) ?_
    ·rintro s r h' Q ae ⟨ver,S,a6,ap,bH,bC,i,v,C,D,E⟩;have⟨m,eb,eV⟩:∃m:Nat,k.dH[s].iZ=m/\m<=32:=⟨k.dH[s].iZ.toNat,by have:=W.2.2 _ (aF Q);have:=this.1;omega,by have:=W.2.2 _ (aF Q);have:=this.2.1;omega⟩;have c4:m*8<=70368744177664:=J;have c6:m*24<=70368744177664:=J;have dk:=i.n;have cp:∀q,q<3->(q=h'.size)=False:=λq N=>by simp;omega
     have eF:∀q,q<3->(q=h'.size+1)=False:=λq N=>by simp;omega
     have ca:=i.ok;have eX:=ca.low;have YO:il 0 ((h'.cons ⟨1,0,0,true,false,List.replicate m (Z 0)⟩).cons ⟨1,0,0,true,false,List.replicate m dD⟩):=(ca.cons _).cons _;have a7:∀q,((h'.cons ⟨1,0,0,true,false,List.replicate m (Z 0)⟩).cons ⟨1,0,0,true,false,List.replicate m dD⟩).get q=if q=h'.size+1 then some ⟨1,0,0,true,false,List.replicate m dD⟩else if q=h'.size then some ⟨1,0,0,true,false,List.replicate m (Z 0)⟩else h'.get q:=λq=>by rw[dS,dS];rfl
     have cL:((h'.cons ⟨1,0,0,true,false,List.replicate m (Z 0)⟩).cons ⟨1,0,0,true,false,List.replicate m dD⟩).size=h'.size+1+1:=rfl;have bN:Nb h' ((h'.cons ⟨1,0,0,true,false,List.replicate m (Z 0)⟩).cons ⟨1,0,0,true,false,List.replicate m dD⟩):=⟨⟨YO.hp,YO.low,J⟩,λq N=>(a7 q).trans ((aq J).trans (aq J))⟩;have de:=i.th.g.mono (h':=(h'.cons ⟨1,0,0,true,false,List.replicate m (Z 0)⟩).cons ⟨1,0,0,true,false,List.replicate m dD⟩) λq x=>bN.get q (by have⟨_,_,_,_,P,_⟩:=i.th.g.box x;exact H.fh P);have⟨X,M,U,y⟩:=de.Ht (cx:=cx) YO L8 rfl L5 rfl dy (x:= .agg [Z 0,.arr h'.size 0 0 m false,.arr (h'.size+1) 0 0 m false,Z 0]) rfl (by have:=i.th.l;have:=i.l;have:=W.2.1;simp;omega);simp only[cL]at U;have eH:=y.2.2.2.sz;rw[cL]at eH;have aX:∀q,dT S=some q->h.size<=q:=λq x=>(i.th.c q x).1;have gN:∀q,q<h'.size->dT S≠some q->M.get q=h'.get q:=λq N ec=>(y.2.1 q J ec).trans (bN.get q N);have a8:∀q,q<3->M.get q=h'.get q:=λq N=>gN q J λx=>by have:=aX q x;omega
     have p2:=(a8 2 J).trans i.b2;simp[v,C,D,E,Q,i.b0,i.b2,eb,c4,c6,cp,U,p2,y.1.iy,y.1.cells,dX,ae];have et:il 0 M:=⟨y.2.2.2.hp,y.2.2.2.low,ax _⟩;have A:∀q,(dZ M 2 (dE 7 (ver+1) [.agg [sl (o.ei.map dR.t),Z o.tx,sl (o.done.map T.bool),sl (o.dH.map dJ.t),I,K,X]])).get q=if q=2 then some (dE 7 (ver+1) [.agg [sl (o.ei.map dR.t),Z o.tx,sl (o.done.map T.bool),sl (o.dH.map dJ.t),I,K,X]])else M.get q:=λq=>dN p2 _ q;have eo:=et.put 2 (dE 7 (ver+1) [.agg [sl (o.ei.map dR.t),Z o.tx,sl (o.done.map T.bool),sl (o.dH.map dJ.t),I,K,X]]);have e9:(dZ M 2 (dE 7 (ver+1) [.agg [sl (o.ei.map dR.t),Z o.tx,sl (o.done.map T.bool),sl (o.dH.map dJ.t),I,K,X]])).size=M.size:=fK ..;generalize dZ M 2 _=bi at*
     have eW:List.replicate m (T.int .i64 0)=ge (List.replicate m 0):=by simp[ge]
     have eB:BC h'.size (h'.size+1+1) ((h'.cons ⟨1,0,0,true,false,List.replicate m (Z 0)⟩).cons ⟨1,0,0,true,false,List.replicate m dD⟩) (.arr h'.size 0 0 m false) (.arr (h'.size+1) 0 0 m false) (List.replicate m dD) ⟨0,List.replicate m 0,List.replicate m [],0⟩:=by
      refine⟨.inr ⟨h'.size,0,0,true,_,dy,(a7 _).trans ((aq J).trans (ar rfl)),dy⟩,.inr ⟨h'.size+1,0,0,true,_,dy,(a7 _).trans (ar rfl),dy⟩,CF dy λj a b Y bs=>?_,λq x=>?_,λq x=>?_⟩
      ·have ds:=bM (ay Y);have dv:=bM (ay bs);subst ds;subst dv;exact⟨.inr (Gr.nil _ _),λq x=>by simp at x⟩
      ·simp at x;subst x;exact⟨aw _,J,dy⟩
      ·simp at x;subst x;exact⟨J,J⟩
     have eA:=(i.th.app i.n.2 bN eB y).mono (h':=bi) J λq v _=>(A q).trans (aq J);refine⟨ver+1,X,_,_,_,_,⟨eo,⟨i.n.1,J⟩,(A 0).trans ((aq J).trans ((a8 0 J).trans i.b0)),(A 1).trans ((aq J).trans ((a8 1 J).trans i.b1)),(A 2).trans (ar rfl),i.gc.mono λq x=>?_,i.gf.mono λq x=>?_,i.bx,eA,by simp[i.l],λL ht=>?_⟩⟩
     ·have:=i.bx q (.inl x);exact(A q).trans ((aq J).trans (gN q J λp=>by have:=aX q p;omega))
     ·have:=i.bx q (.inr x);exact(A q).trans ((aq J).trans (gN q J λp=>by have:=aX q p;omega))
     ·rcases List.mem_append.1 ht with q|q
      ·exact i.t L q
      ·simp at q;subst q;exact⟨⟨dz,dz,λl hl=>by have:=bM hl;subst this;exact Tn.nil _⟩,rfl⟩
    ·rintro r h' ⟨ver,S,a6,ap,bH,bC,i,v,C,D,E⟩;have bu:=i.b1;unfold nO at bu;have A:∀p q,(dZ h' 1 p).get q=if q=1 then some p else h'.get q:=λp q=>dN bu p q;have dk:=i.n;have c7:∀p,TI.fz (dZ h' 1 p) I=some (sl (ge G)):=λp=>(i.gc.mono (h':=dZ h' 1 p) λq x=>by have:=i.bx q (.inl x);rw[A,aq J]).fz dy;have c9:∀p,TI.fz (dZ h' 1 p) K=some (sl (ge F)):=λp=>(i.gf.mono (h':=dZ h' 1 p) λq x=>by have:=i.bx q (.inr x);rw[A,aq J]).fz dy;have dd:∀p,TI.fz (dZ h' 1 p) S=some (sl (ap.map eJ.t)):=λp=>by
      have b6:=i.th.mono (h':=dZ h' 1 p) (by rw[fK];exact aw _) λq v _=>by rw[A,aq J]
      refine b6.g.KF (V:=λ_=>True) (d:=4) J (CF (by simp[b6.l]) λj x w eh aN=>?_);rw[aS]at aN;obtain⟨eD,ef,rfl⟩:=Option.map_eq_some_iff.1 aN;obtain⟨eI,eL,eO,rfl,eC⟩:=b6.e j x eD eh ef;exact .inr (.inr ⟨_,_,rfl,eC.fz _ λ_ _ _=>trivial,rfl⟩)
     simp[v,C,D,E,i.b0,i.b2,bu,dX,A,c7,c9,dd,i.ok.hp];have hl:=i.l;refine⟨⟨o,G,F,ap⟩,rfl,⟨⟨by rw[bn.1];omega,by rw[bn.2.1];omega,by rw[bn.2.2];omega,dA,dA,dA⟩,dm,dn,λL ht=>(i.t L ht).1⟩,λL ht=>by have:=(i.t L ht).2;omega⟩
    ·refine⟨ver,dD,[],[],λ_=>0,λ_=>0,⟨u.ok,⟨J,aw _⟩,z.get,O.get,B,av,aA,c1,⟨Gr.nil _ _,rfl,λs e L x=>by simp at x,λs x=>by simp at x,λs j x p=>by simp at p,λk x=>by simp at x⟩,rfl,λL ht=>by simp at ht⟩,by simp[v,C,D]⟩
   ·exact⟨[],ey,rfl,z,O,by simp[v,C,D]⟩
  ·generalize aE:H.cons _ _=b8;have er:il 0 b8:=by rw[<-aE];exact⟨dy,dy,dy⟩
   have bT:=ny.start (h:=b8) (w:=2) (szw:=7) (ver:=1) (F:=[(sl (o.ei.map dR.t),none),(Z o.tx,none),(sl (o.done.map T.bool),none),(sl (o.dH.map dJ.t),none),(dD,some (1,[])),(dD,some (1,[])),(dD,none)]) er (by rw[<-aE];simp) (λf b9=>by
    simp only[bZ,cG,or_false]at b9;rcases b9 with rfl|rfl|rfl|rfl|rfl|rfl|rfl
    iterate 4 exact .inl ⟨rfl,dy⟩
    iterate 2 exact .inr ⟨rfl,1,rfl,dB⟩
    exact .inl ⟨rfl,rfl⟩)
   exact⟨[],⟨1,_,_,bT.1⟩,rfl,⟨by rw[<-aE];simp,λx=>absurd (bT.2 0 x) J⟩,⟨by rw[<-aE];simp[nO],λx=>absurd (bT.2 1 x) J⟩,dy⟩
section
attribute [-simp] size_cons
structure IFr where
 (c:jR) (s:iQ) (L:List fX)
def Vl(a:IFr)(b:List T)(d:H):Prop:=b=[a.c.t,a.s.t,dD,sl (a.L.map fX.t)]/\il 0 d/\(∀e∈a.c.dH,e.jm.length<=10000001)/\StI a.s/\XD 0 a.s/\a.L.length<=80
def Pw(i:IFr)(h:List T)(c:H)(f:T)(d:H):Prop:=∃(a:List ez) (g:iQ) (b:T),f= .tuple [b,g.t]/\Gr d b 7 (a.map ez.t)/\(∀e,dT b=some e->c.size<=e)/\Nb c d/\KJ a/\a.length<=80
structure Fr9(c:jR)(h0:H)(n:Nat)(h:H)(s:iQ)(l:List ez)(v:T)(ver:Nat):Prop where
 nb:Nb h0 h
 z:h0.size+3<=h.size
 b0:h.get h0.size=some (dE 7 0 [c.t])
 b1:h.get (h0.size+1)=some (dE 7 ver [s.t])
 b2:h.get (h0.size+1+1)=some nO
 g:Gr h v 7 (l.map ez.t)
 bx:∀q,dT v=some q->h0.size+3<=q
 st:StI s
 ev:XD n s
 es:KJ l
 l:l.length<=n
def Fr9.ok{c:jR}{d a:H}{g:Nat}{h:iQ}{f:List ez}{j:T}{k:Nat}(b:Fr9 c d g a h f j k):il 0 a:=⟨b.nb.ok.hp,b.nb.ok.low,ax _⟩
def Qg:(jM IFr Vl Pw).Ok prog cx 89:=by
 refine jB (tb:=⟨pt [(134,Ie.jv)],ht []⟩) iR iE (iX 68723687231 [(4,[(6,11),(6,12)])] func89) (λ_ _=>1005) (λi T d bT=>by obtain⟨rfl,_⟩:=bT;simp[f89]) ?_;rintro⟨r,j,D⟩ _ c ⟨rfl,an,X,ae,W,bB⟩ o I;simp only at X ae W bB;simp at I;obtain⟨bn,bs,s,u⟩:=I;have Q:=an.hr;simp[f89,bn,bs];have c7:=an.low;generalize p:((H.cons _ _).cons _).cons _=v;have c9:il 0 v:=by rw[<-p];exact((Q.cons _).cons _).cons _
 have ds:v.size=c.size+1+1+1:=by rw[<-p];rfl
 have b7:Nb c v:=by rw[<-p];exact⟨((((Nb.refl Q).cons _).cons _).cons _).ok,λr bC=>(((((Nb.refl Q).cons _).cons _).cons _).get r bC).trans (ik c r)⟩
 have cp:v.get c.size=some (dE 7 0 [r.t]):=by rw[<-p];simp
 have cL:v.get (c.size+1)=some (dE 7 0 [j.t]):=by rw[<-p];simp
 have c1:v.get (c.size+1+1)=some nO:=by rw[<-p];simp[nO]
 clear p;refine Ce D.length (λm o d=>∃j A B n,Fr9 r c m d j A B n/\dF o 4 (.ptr c.size 0 0 0)/\dF o 5 (.ptr (c.size+1) 0 0 0)/\dF o 9 (.ptr (c.size+1+1) 0 0 0)/\dF o 2 B/\dF o 3 (sl (D.map fX.t))/\dF o 10 (Z m)) ?_ J (ax _) ?_
 ·rintro m o d c6 ⟨j,A,B,n,b,L,x,M,s,u,F⟩;have al:=b.g.len (cx:=cx) d V6 _ rfl;rw[aH]at al;simp[s,u,F,al];refine ej (λe=>?_) (λe=>?_)
  ·have bS:m<D.length:=by simp at e;exact e.1
   have b6:=b.z;have a8:XD 999000 j:=λR ht=>by have:=b.ev R ht;omega
   obtain⟨_,⟨q,E,b9,rfl,bN,Y⟩,U⟩:=Ie.use (r,j,D[m]) ⟨X,b.st,a8⟩;simp only at U Y;have dd:(c.size=d.size)=False:=by simp<;>omega
   have di:(c.size+1=d.size)=False:=by simp<;>omega
   have de:(c.size=d.size+1)=False:=by simp<;>omega
   have dk:(c.size+1=d.size+1)=False:=by simp<;>omega
   simp[u,L,x,F,b.b0,b.b1,bS,U,b.ok.low];generalize G:dZ _ (d.size+1) _=h;have P:il 0 ((d.cons (dE 7 1 [q.t])).cons (dE 7 0 [.agg [Z 0,Z 0,Z 0,Z 0,Z 0,dD,dD]])):=(b.ok.cons _).cons _;have O:il 0 h:=by rw[<-G];exact P.put _ _
   have c4:h.size=d.size+1+1:=by rw[<-G,fK];rfl
   have K:∀a,h.get a=if a=d.size+1 then some (dE 7 1 [E.t])else if a=d.size then some (dE 7 1 [q.t])else d.get a:=λa=>by
    rw[<-G,mL P.hp (by show _<d.size+1+1;omega)];split
    ·rfl
    ·rw[dS,aq (by assumption),dS]
   clear G P;have Go:∀a,a<d.size->h.get a=d.get a:=λa e=>(K a).trans ((aq J).trans (aq J));have a0:=(Go c.size J).trans b.b0;have a1:=(Go (c.size+1) J).trans b.b1;have a2:=(Go (c.size+1+1) J).trans b.b2;have av:=(K d.size).trans ((aq J).trans (ar rfl));have ap:=(K (d.size+1)).trans (ar rfl);have gA:=b.g.mono (h':=h) λa f=>by have⟨_,_,_,_,g,_⟩:=b.g.box f;exact Go a (H.fh g)
   cases b9 with
   |false=>
    simp[s,u,L,x,M,F,oG];rw[<-jA,jH J J];exact⟨m+1,J,J,j,A,B,⟨n,⟨⟨⟨O.hp,O.low,J⟩,λa e=>(Go a J).trans (b.nb.get a e)⟩,J,a0,a1,a2,gA,b.bx,b.st,λR ht=>by have:=b.ev R ht;omega,b.es,by have:=b.l;omega⟩⟩,rfl,dy⟩
   |true=>
    have⟨ca,a7⟩:=Y rfl;have b8:il 0 (dZ h (c.size+1) (dE 7 (n+1) [q.t])):=O.put _ _;have k:∀a,(dZ h (c.size+1) (dE 7 (n+1) [q.t])).get a=if a=c.size+1 then some (dE 7 (n+1) [q.t])else h.get a:=λa=>dN a1 _ a;have dm:(dZ h (c.size+1) (dE 7 (n+1) [q.t])).size=d.size+1+1:=by rw[fK];exact c4
    simp[s,x,av,a1];generalize dZ h (c.size+1) _=V at*
    have aA:=(k c.size).trans ((aq J).trans a0);have aE:=(k (c.size+1)).trans (ar rfl);have aN:=(k (c.size+1+1)).trans ((aq J).trans a2);have aX:=(k (d.size+1)).trans ((aq J).trans ap);have bi:=gA.mono (h':=V) λa f=>(k a).trans (aq (by have:=b.bx a f;omega));have⟨cb,bu,a6,w⟩:=bi.mn (cx:=cx) b8 Ra rfl Q8 rfl dy (λ_=>rfl) E (by have:=b.l;simp;omega);simp[u,L,x,M,F,aX,a6,oG];rw[<-jA,jH J J];have dn:=w.2.2.2.sz;have C:∀a,a<c.size+3->bu.get a=V.get a:=λa e=>w.2.1 a J λf=>by have:=b.bx a f;omega
    exact⟨m+1,J,J,q,A++[E],cb,⟨n+1,⟨⟨⟨w.2.2.2.hp,w.2.2.2.low,J⟩,λa e=>(C a J).trans ((k a).trans ((aq J).trans ((Go a J).trans (b.nb.get a e))))⟩,J,(C c.size J).trans aA,(C (c.size+1) J).trans aE,(C (c.size+1+1) J).trans aN,w.1,λa f=>by
     rcases w.2.2.1 a f with y|y
     ·exact b.bx a y
     ·omega,ca,a7 m b.ev,λT I=>by
     rcases List.mem_append.1 I with y|y
     ·exact b.es T y
     ·simp at y;subst y;exact bN,by have:=b.l;simp;omega⟩⟩,rfl,dy⟩
  ·have N:=b.b2;unfold nO at N;have b6:=b.z;have k:∀y a,(dZ d (c.size+1+1) y).get a=if a=c.size+1+1 then some y else d.get a:=λy a=>dN N y a;simp[s,x,M,b.b1,N,dX,k];have S:∀a,a≠c.size+1+1->(md c (dZ d (c.size+1+1) (dE 7 1 [j.t]))).get a=d.get a:=λa e=>by rw[fV,k,aq e]
   exact⟨A,j,B,rfl,b.g.mono λa f=>S a (by have:=b.bx a f;omega),λa f=>by have:=b.bx a f;omega,⟨⟨((b.ok.put _ _).out c).hp,((b.ok.put _ _).out c).low,by rw[ut,fK];exact b.nb.ok.sz⟩,λa e=>(S a J).trans (b.nb.get a e)⟩,b.es,by have:=b.l;omega⟩
 ·exact⟨j,[],_,_,⟨b7,J,cp,cL,c1,Gr.nil _ _,λa f=>by simp at f,ae,W,λE bH=>by simp at bH,aw _⟩,by simp[s,u]⟩
