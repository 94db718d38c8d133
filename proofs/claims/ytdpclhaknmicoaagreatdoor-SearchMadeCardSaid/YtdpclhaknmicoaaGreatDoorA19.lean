/- W07d -/
import Derived.Test.YtdpclhaknmicoaaGreatDoorA13
import Derived.Test.YtdpclhaknmicoaaGreatDoorA18
set_option linter.all false
set_option maxRecDepth 100000
set_option maxHeartbeats 0
namespace Go.Proofs.YtdpclhaknmicoaaGreatDoor
noncomputable section
open Go Go.TI Tryz
attribute [-simp] List.map_take List.map_drop List.map_append ik gu fI Bool.not_or Bool.not_and
section
attribute [-simp] size_cons
structure YI where
 (i:iK) (s:gJ) (a b:T) (es:List T) (lo hi N:Nat)
structure TOk(N r:Nat)(s:gJ):Prop where
 rl:s.jT.length=r
 tl:s.lU.length=r
 tn:∀l∈s.lU,Tn N l
 rr:∀x∈s.jT,mH x
def Ta(c:YI)(e:List T)(d:H):Prop:=e=[c.i.t,EX c.s c.a c.b]/\EG c.lo c.hi d c.a c.b c.es c.s/\c.hi<=d.size/\jk 0 d/\1<=c.i.op/\c.i.op<=5/\TOk c.N c.s.jT.length c.s/\c.s.jT.length<=1000/\c.N<=1000000/\cI c.i
def Pk(a:YI)(k:List T)(e:H)(j:T)(c:H):Prop:=∃d f g i h,j= .tuple [EX d f g,.bool h]/\EG a.lo c.size c f g i d/\(∀b,b<e.size->(b<a.lo\/a.hi<=b)->c.get b=e.get b)/\jk e.size c/\(h->TOk a.N a.s.jT.length d/\d.eZ=a.s.eZ)
def EG.mono{g f lo' hi':Nat}{k h':H}{h i:T}{j:List T}{l:gJ}(c:EG g f k h i j l)(hl:lo'<=g)(n:f<=hi')(e:∀a,g<=a->a<f->h'.get a=k.get a):EG lo' hi' h' h i j l:=
 ⟨c.ga.mono λa b=>e a (c.ba a b).1 (c.ba a b).2.1,c.gb.mono λa b=>e a (c.bb a b).1 (c.bb a b).2,c.el.imp λm o d=>⟨d.1.mono λa b=>e a (d.2 a b).1 (d.2 a b).2.1,λa b=>⟨iV (d.2 a b).1,iV (d.2 a b).2.1,(d.2 a b).2.2⟩⟩,λa b=>⟨iV (c.ba a b).1,iV (c.ba a b).2.1,(c.ba a b).2.2⟩,λa b=>⟨iV (c.bb a b).1,iV (c.bb a b).2⟩⟩
def EG.same{h g:Nat}{f:H}{c d:T}{e:List T}{b s':gJ}(a:EG h g f c d e b)(i:s'.jT=b.jT)(j:s'.lU=b.lU):EG h g f c d e s':=⟨i▸a.ga,a.gb,j▸a.el,a.ba,a.bb⟩
def EG.zero(e d:Nat)(c:H):EG e d c ed ed [] ⟨0,[],[],0⟩:=⟨Gr.nil _ _,Gr.nil _ _,.nil,Y,Y⟩
theorem d5{p:Prop}(h:p:=by unfold jQ;simp[e]):p:=h
def TH:(kW YI Ta Pk).Ok prog cx 232:=by
 refine jP [(92,qK),(262,Bp.kx),(261,Lf.kx),(263,II.kx)] [(121,kW IUn S9 No)] (jz 9904163146420522906957187071 [(20,[(2,4),(2,6),(2,7),(2,8)]),(10,[(2,4),(2,6),(2,7),(2,8),(2,10),(2,12),(2,13),(2,14)]),(22,[(1,11),(3,11),(5,11),(7,11),(5,13),(7,13)])] func232) 100 ?_;rintro⟨i,j,ax,al,U,eo,fs,N⟩ _ g ⟨rfl,h,ff,dd,fy,fA,l,hr,e9,ds⟩ m ea
 dsimp at h ff fy fA l hr e9 ds
 simp[EX]at ea;simp[f232,ea,yo];generalize V:(((TI.hr g).cons _).cons _).cons _=r;have I:jk 0 r:=V▸((dd.hr.cons _).cons _).cons _;have gw:r.size=g.size+1+1+1:=by rw[<-V];rfl
 have av:Nb g r:=V▸⟨((((Nb.refl dd.hr).cons _).cons _).cons _).ok,λd f=>(((((Nb.refl dd.hr).cons _).cons _).cons _).get d f).trans (iZ g d)⟩;have R:r.get g.size=G (eg 6 0 [i.t]):=by rw[<-V];simp
 have S:r.get (g.size+1)=G (eg 4 0 [.agg [M j.pC,ax,al,M j.eZ]]):=by rw[<-V];simp
 have aA:r.get (g.size+1+1)=G (eg 4 0 [.agg [M 0,ed,ed,M 0]]):=by rw[<-V];simp
 clear V;have ej:=h.ga.len (cx:=cx) r WA _ rfl;rw[aL]at ej;have e8:∀y,(fQ r (g.size+1+1) y).get (g.size+1+1)=G y:=λy=>(fj aA y _).trans (au rfl);have gM:=FK i;refine io (jQ i).length J (λX m h'=>r=h'/\jg m 2 g.size/\jg m 3 (g.size+1)/\jg m 4 (g.size+1+1)/\ka m 6 (sl (iE (jQ i)))/\iS m 7 X/\∀F∈(jQ i).take X,0<=F/\F<j.jT.length) ?_ ?_ J Y;rintro X m _ ar fb ⟨rfl,s,u,B,bA,bN,E⟩;have fB:(jQ i).take (X+1)=(jQ i).take X++[(jQ i)[X]]:=aM ar;simp[u,bA,bN,ar,S,ej];generalize(jQ i)[X]=F at*
 refine fO (λbn=>?_) (λbn=>?_);simp[B,aA,e8,fN];refine⟨⟨0,[],[],0⟩,_,_,_,false,rfl,EG.zero _ _ _,λd f _=>?_,⟨(I.put _ _).out g|>.hp,(I.put _ _).out g|>.low,dY⟩,Y⟩;rw[iJ,fj aA,aq J];exact av.get d f;simp at bn;simp[s,u,B,bA,bN,fb,fB];intro x bs;rcases bs with bs|rfl
 exact E x bs;omega
 .rintro m _ ⟨rfl,s,u,B,bA,bN,E⟩;rw[aI]at E;simp[s,bA,bN,R];have b7:rx r 1 ax (iE j.jT):= .inr (h.ga.mono λd f=>av.get d (iV (h.ba d f).2.1));have b8:rx r 1 al U:= .inr (h.gb.mono λd f=>av.get d (iV (h.bb d f).2));have b6:∀F:Int,0<=F->F<j.jT.length->∃z e,j.lU[F.toNat]? =G z/\U[F.toNat]? =G e/\rx r 1 e (iE z)/\Tn N z:=λF r0 r1=>by
   have ar:F.toNat<j.lU.length:=iV l.tl;have⟨e,bX,k⟩:=h.el.get (aF ar);exact⟨_,e,aF ar,bX,k.1.mono λd f=>av.get d (iV (k.2 d f).2.1),l.tn _ (aG ar)⟩
  refine nS (λm D=>∃(v:Int) (eH:T) (w:T) (ae:List Int),MR eH/\mH v/\Nb r D/\rx D 1 w (iE ae)/\Tn N ae/\jB i.a j.jT.length/\jg m 2 g.size/\jg m 3 (g.size+1)/\jg m 4 (g.size+1+1)/\iS m 8 v/\ka m 9 eH/\ka m 10 w) (λbn=>?_) (λbn=>?_) ?_
  .simp[s,u,B,R,S,aA,fN,rV,I.hp,gw];refine⟨{j with pC:=i.a},ax,al,U,true,rfl,(h.mono (ay _) dY λd _ f=>?_).same rfl rfl,λd f _=>?_,⟨(((I.put _ _).put _ _).out g).hp,(((I.put _ _).put _ _).out g).low,dY⟩,λ_=>⟨⟨rfl,l.tl,l.tn,l.rr⟩,rfl⟩⟩
   all_goals (rw[iJ,rV (iC I.hp) dY,aq J,fj S,aq J];exact av.get d J)
  have gF:¬i.op=5:=iC bn;have f:i.op=1\/i.op=2\/i.op=3\/i.op=4:=J;rcases f with e|e|e|e
  have K:=E i.a d5;simp[s,u,B,R,e];exact⟨_,_,⟨_,rfl⟩,ds e,Nb.refl I,_,[],.inr (Gr.nil _ _),Tn.nil N,gG.2 ⟨K.1,J⟩,rfl,rfl,rfl⟩;have K:=E i.a d5;have C:=E i.b d5;have⟨p1,aE,aN⟩:=b7.idx (te:=KK) rfl rfl (i:=i.b.toNat) (x:= M j.jT[i.b.toNat]) (by simp[show i.b.toNat<j.jT.length by omega]) rfl;have⟨z,w,hl,br,Q,O⟩:=b6 i.b C.1 C.2;have⟨p2,aX,a7⟩:=b8.idx (te:=uu) rfl rfl br Q.je.2;simp[s,u,B,R,S,e,fZ C.1,aE,aN,aX,a7];exact⟨_,_,⟨_,rfl⟩,l.rr _ (aG _),Nb.refl I,_,z,Q,O,gG.2 ⟨K.1,J⟩,rfl,rfl,rfl⟩;have K:=E i.a d5;have C:=E i.b d5;have⟨p1,aE,aN⟩:=b7.idx (te:=KK) rfl rfl (i:=i.b.toNat) (x:= M j.jT[i.b.toNat]) (by simp[show i.b.toNat<j.jT.length by omega]) rfl;have⟨z,w,hl,br,Q,O⟩:=b6 i.b C.1 C.2;have⟨p2,aX,a7⟩:=b8.idx (te:=uu) rfl rfl br Q.je.2;obtain⟨_,⟨o,rfl⟩,cL⟩:=Bp.use i.n trivial;obtain⟨_,⟨gn,fP,rfl,c6⟩,a8⟩:=Lf.use (o,j.jT[i.b.toNat]) trivial
  dsimp at a8
  simp[s,u,B,R,S,e,fZ C.1,aE,aN,aX,a7,cL,a8];exact⟨_,_,⟨_,rfl⟩,c6,Nb.refl I,_,z,Q,O,gG.2 ⟨K.1,J⟩,rfl,rfl,rfl⟩;have K:=E i.a d5;have C:=E i.b d5;have c4:=E i.c d5;have⟨p1,aE,aN⟩:=b7.idx (te:=KK) rfl rfl (i:=i.b.toNat) (x:= M j.jT[i.b.toNat]) (by simp[show i.b.toNat<j.jT.length by omega]) rfl;have⟨p3,eN,eO⟩:=b7.idx (te:=KK) rfl rfl (i:=i.c.toNat) (x:= M j.jT[i.c.toNat]) (by simp[show i.c.toNat<j.jT.length by omega]) rfl;have⟨z,w,hl,br,Q,O⟩:=b6 i.b C.1 C.2;have⟨l2,gv,gI,fE,ey,eG⟩:=b6 i.c c4.1 c4.2;have⟨p2,aX,a7⟩:=b8.idx (te:=uu) rfl rfl br Q.je.2;have⟨p4,eP,eR⟩:=b8.idx (te:=uu) rfl rfl fE ey.je.2;obtain⟨_,⟨o,rfl⟩,cL⟩:=Bp.use i.n trivial;obtain⟨_,⟨gn,fP,rfl,c6⟩,a8⟩:=II.use (o,j.jT[i.b.toNat],j.jT[i.c.toNat]) (l.rr _ (aG _))
  dsimp at a8
  simp[s,u,R,S,e,fZ C.1,fZ c4.1,aE,aN,aX,a7,eN,eO,eP,eR,cL,a8];refine jy Le Y ⟨z,l2,w,gv⟩ ⟨rfl,Q,ey,by have:=O.1;have:=eG.1;simp only;omega,I⟩ ?_;rintro F D ⟨gk,L,_⟩;simp[s,u,B];exact⟨_,_,⟨_,rfl⟩,c6,L,_,_,gk,O.union eG,gG.2 ⟨K.1,J⟩,rfl,rfl,rfl⟩;rintro m D ⟨v,_,w,ae,⟨fS,rfl⟩,fC,L,gj,O,K,s,u,B,dm,dn,dk⟩;have ca:=(L.get _ J).trans R;have cb:=(L.get _ J).trans S;have di:=(L.get _ J).trans aA;have hg:=L.ok.sz;have⟨c1,q,cp,⟨gV,gB,gA⟩,hd,bu,P⟩:=kR (cx:=cx) (⟨L.ok.hp,L.ok.low,az _⟩:jk 0 D) kS rfl nL kS rfl rfl Y gj.kd d1 (uC O.1);have W:=gG.1 K;have Z:Nb g q:=⟨⟨P.hp,P.low,J⟩,λd f=>(bu d J).trans ((L.get d J).trans (av.get d f))⟩;have gy:=(bu _ J).trans ca;have eL:=(bu _ J).trans cb;have eM:=(bu _ J).trans di;have⟨p,gz,gX,gD,ha,bi,eb,ao,ec⟩:=(h.ga.mono (h':=q) λd f=>Z.get d (iV (h.ba d f).2.1)).CD (te:=KK) rfl (i:=i.a.toNat) (iC W.2);have⟨A,eS,gZ,gE,hb,ap,fe,bW,ee⟩:=(h.gb.mono (h':=q) λd f=>Z.get d (iV (h.bb d f).2)).CD (te:=uu) rfl (i:=i.a.toNat) (by rw[h.el.length,l.tl];exact W.2);simp at cp;have bZ:=(h.ba p bi).2.2;have eh:¬p=A:=λk=>bZ (k▸ap);have et:=H.fV ao;have fM:=H.fV bW;have eu:=(h.ba p bi);have gS:=(h.bb A ap);have gP:=eu.1;have gQ:=eu.2.1;have⟨e,bX,gi⟩:=h.el.get (aF (show i.a.toNat<j.lU.length from l.tl▸W.2));have eE:=Bf (x:= .arr D.size c1 0 ae.length false) gi.1.na;have fL:U[i.a.toNat]'(by rw[h.el.length,l.tl];exact W.2)=e:=by rw[aF (by rw[h.el.length,l.tl];exact W.2)]at bX;simpa using bX
  rw[fL]at ee;have eF:∀x:Int,mT (M x) 0 [M v]=G (M v):=λx=>rfl;have de:∀d,d<D.size->il (D.cons (eg 1 0 [])) q d=true:=λd f=>iw ((bu d f).trans d2);have eA:=de g.size J;have eB:=de (g.size+1) J;have eC:=pR ao (show g.size≠p by omega);have eD:=pR ao (show g.size+1≠p by omega);have gm:=pR ao (show A≠p by omega);have eU:(g.size+1=p)=False:=dY;have eV:(g.size+1=A)=False:=dY;have eW:(g.size+1+1=p)=False:=dY;have eX:(g.size+1+1=A)=False:=dY;have e0:(A=p)=False:=dY;have l1:g.size+1<q.size:=J;have l2:g.size+1+1<q.size:=J;have ef:al= .arr A eS 0 U.length false:=by
   have⟨_,_,_,_,k,e⟩:=(h.gb.mono (h':=q) λd f=>Z.get d (iV (h.bb d f).2)).box ap;rw[bW]at k;simp at k;rw[e,k.1]
  have fv:i.a.toNat<U.length:=by rw[h.el.length,l.tl];exact W.2
  simp at ec;simp[s,u,B,dm,dn,dk,ca,cb,cp,fZ W.1,eb,ef,fv,ao,bW,eL,eM,ec,ee,eF,eE,eA,eB,eC,eD,rV,P.hp,et,fM,eU,eV,eW,eX,e0,l1,l2,fN,tz];clear cp de eA eB eC eD gm ca cb di s u B dm dn dk eE eF eb fe;have e5:=h.ga.mono (h':=q) λd f=>Z.get d (iV (h.ba d f).2.1);have e7:=h.gb.mono (h':=q) λd f=>Z.get d (iV (h.bb d f).2);rw[<-ef];generalize bT:fQ (fQ (fQ (fQ q p _) A _) (g.size+1) _) (g.size+1+1) _=an;have hf:an.size=q.size:=by rw[<-bT];simp
  have ZE:jk 0 an:=bT▸(((P.put _ _).put _ _).put _ _).put _ _;have b9:∀d,an.get d=if d=g.size+1+1 then _ else if d=g.size+1 then _ else if d=A then _ else if d=p then _ else q.get d:=λd=>by
   rw[<-bT,rV (iC P.hp) dY,rV (iC P.hp) dY,rV (iC P.hp) dY,rV P.hp et]
  clear bT;have Go:∀d,d≠g.size+1+1->d≠g.size+1->d≠A->d≠p->an.get d=q.get d:=λd fW fX fY gg=>by rw[b9,aq fW,aq fX,aq fY,aq gg]
  have e4:=e5.setAt bi ao i.a.toNat (M v) (h':=an) (by rw[b9,aq J,aq J,aq J,au rfl]);have e6:=e7.setAt ap bW i.a.toNat (.arr D.size c1 0 ae.length false) (h':=an) (by rw[b9,aq J,aq J,au rfl]);have eI:∀d,fD ax=G d->d=p:=λd f=>by rw[bi]at f;simpa using f.symm
  have eK:∀d,fD al=G d->d=A:=λd f=>by rw[ap]at f;simpa using f.symm
  refine⟨⟨IntKind.i64.wrap (j.pC+1),j.jT.set i.a.toNat v,j.lU.set i.a.toNat ae,j.eZ⟩,ax,al,U.set i.a.toNat (.arr D.size c1 0 ae.length false),fS,rfl,⟨?_,?_,?_,λd f=>?_,λd f=>?_⟩,λd f hr=>?_,⟨(ZE.out g).hp,(ZE.out g).low,dY⟩,λ_=>⟨⟨Y,by simp;exact l.tl,λz hl=>?_,λx bs=>(bP bs).elim (l.rr x) λk=>k▸fC⟩,rfl⟩⟩;have:=e4.out g;simpa[iE,aY]using this;exact e6.out g;refine h.el.set i.a.toNat ⟨.inr ?_,λd f=>?_⟩ λe z k=>⟨k.1.mono λd f=>?_,λd f=>?_⟩;have:=Gr.new ((Go D.size J J J J).trans gA);simpa using this.out g;simp at f;subst f;exact⟨by show eo<=_;omega,dY,λk=>iV (eI _ k),λk=>iV (eK _ k)⟩;have⟨bZ,eh,c7,c9⟩:=k.2 d f;rw[iJ,Go d J J (λk=>c9 (k▸ap)) (λk=>c7 (k▸bi))];exact Z.get d J;have⟨bZ,eh,c7,c9⟩:=k.2 d f;exact⟨bZ,dY,c7,c9⟩;have:=h.ba d f;exact⟨this.1,dY,this.2.2⟩;have:=h.bb d f;exact⟨this.1,dY⟩;have hr:d<eo\/fs<=d:=hr;rw[iJ,Go d J J J J];exact Z.get d f;rcases bP hl with k|rfl;exact l.tn z k;exact O
structure ISe where
 (c:iR) (s:gJ) (a b:T) (es:List T) (lo hi N:Nat)
structure Z5(N:Nat)(s:gJ):Prop where
 rl:s.jT.length<=1000
 tl:s.lU.length<=1000
 tn:∀l∈s.lU,Tn N l
 rr:∀x∈s.jT,mH x
def Tb(d:ISe)(f:List T)(e:H):Prop:=f=[d.c.t,EX d.s d.a d.b]/\EG d.lo d.hi e d.a d.b d.es d.s/\d.hi<=e.size/\jk 0 e/\Z5 d.N d.s/\d.N<=1000000/\d.c.j3.length<=10000001/\∀g∈d.c.j3,cI g
def F6(e:ISe)(h:List T)(c:H)(g:T)(d:H):Prop:=∃a f,g= .tuple [a.t,.bool f]/\Z5 e.N a/\(a.eZ=e.s.eZ\/a.eZ=0)/\d.size=c.size/\(∀b,b<c.size->d.get b=c.get b)/\jk 0 d
def LT(d:List Int):∀a∈iE d,cn a=a/\lr a/\∀b,a≠ .agg b:=λa c=>by obtain⟨e,_,rfl⟩:=List.mem_map.1 c;simp
def EG.fz{o m:Nat}{h:H}{g l:T}{p:List T}{e:gJ}(c:EG o m h g l p e)(k:Nat->Prop)(i:∀a,o<=a->a<m->k a):jw (FT h k 3) [M e.pC,g,l,M e.eZ] e.cs:=
 .cons (jh ..) (.cons ((show rx h 1 g (iE e.jT)from .inr c.ga).ft (d:=1) (LT _) λa b=>i a (c.ba a b).1 (c.ba a b).2.1)
  (.cons (c.gb.ft (λa b=>i a (c.bb a b).1 (c.bb a b).2) (c.el.XB (f:=λn=>sl (iE n)) λq n j=>j.1.ft (d:=0) (LT _) λa b=>i a (j.2 a b).1 (j.2 a b).2.1)) (.cons (jh ..) .nil)))
def ZV{i:ISe}{args:List T}{b d:H}{e:List T}{s':gJ}{ok:Bool}{Vq:Nat->Prop}(o:jk 0 b)(a:Nb b d)(l:∀c,Vq c->b.size<=c)(k:jw (FT d Vq 3) e s'.cs)(q:Z5 i.N s')(n:s'.eZ=i.s.eZ\/s'.eZ=0):OW b (.tuple [.agg e,.bool ok]) d (F6 i args b):=by have⟨p,h,j⟩:=FT.tup J l k ok;refine⟨a.ok.hp,a.ok.sz,λc r m _=> .inl (a.get c m),p,h,s',ok,by rw[j];rfl,q,n,rfl,λg f=>(Hh a.ok.hp a.ok.sz f).trans (a.get g f),o.cut a.ok.hp a.ok.sz⟩
def KH:gJ:=⟨0,[],[],0⟩
def Ha{d:ISe}{c:List T}{a b:H}(f:jk 0 a)(e:Nb a b):OW a (.tuple [.agg [M 0,ed,ed,M 0],.bool false]) b (F6 d c a):=
 ZV (s':=KH) (Vq:=λ_=>False) f e (λ_ g=>g.elim) (.cons (jh ..) (.cons (kj ..) (.cons (kj ..) (.cons (jh ..) .nil)))) ⟨by simp[KH],by simp[KH],by simp[KH],by simp[KH]⟩ (.inr rfl)
structure SeS(c:iR)(s:gJ)(N:Nat)(h h':H)(s':gJ)(a' b':T)(es':List T)(ver:Nat):Prop where
 tx:EG (h.size+1+1+1) h'.size h' a' b' es' s'
 nb:Nb h h'
 hz:h.size+1+1+1<=h'.size
 g2:h'.get h.size=G (eg 2 0 [c.t])
 g3:h'.get (h.size+1)=G (eg 4 ver [.agg [M s'.pC,a',b',M s'.eZ]])
 g4:h'.get (h.size+1+1)=G (eg 4 0 [.agg [M 0,ed,ed,M 0]])
 to:TOk N s.jT.length s'
 ev:s'.eZ=s.eZ
def TL:(kW ISe Tb F6).Ok prog cx 183:=by
 refine KC [(230,Al)] [(231,kW ICp Te Nr),(232,kW YI Ta Pk)] (jz 1182933510117985879039 [] func183) 10000005 ?_;rintro⟨b,d,U,V,aX,bW,bs,T⟩ _ a ⟨rfl,w,dk,ok,u,bi,y,br⟩ A bn;simp only at w dk u bi y br;simp[EX]at bn;obtain⟨dd,K⟩:=bn;have bN:=λK:H=>w.ga.len (cx:=cx) K WA _ rfl;have bT:=λK:H=>w.gb.len (cx:=cx) K Fx _ rfl;rw[aL]at bN;rw[w.el.length]at bT;simp[f183,dd,K,bN,bT];generalize x:(((TI.hr a).cons _).cons _).cons _=v;have eo:jk 0 v:=x▸((ok.hr.cons _).cons _).cons _;have eM:v.size=a.size+1+1+1:=by rw[<-x];rfl
 have ar:Nb a v:=x▸⟨((((Nb.refl ok.hr).cons _).cons _).cons _).ok,λb y=>(((((Nb.refl ok.hr).cons _).cons _).cons _).get b y).trans (iZ a b)⟩;have cb:v.get a.size=G (eg 2 0 [b.t]):=by rw[<-x];simp
 have aE:v.get (a.size+1)=G (eg 4 0 [.agg [M d.pC,U,V,M d.eZ]]):=by rw[<-x];simp
 have W:v.get (a.size+1+1)=G (eg 4 0 [.agg [M 0,ed,ed,M 0]]):=by rw[<-x];simp
 clear x;have c9:∀c,(fQ v (a.size+1+1) c).get (a.size+1+1)=G c:=λc=>(fj W c _).trans (au rfl);refine fO (λN=>?_) (λN=>?_);simp[W,c9,fN];exact Ha ok (ar.put W J _);simp at N;have ej:∀b,bW<=b->b<bs->v.get b=a.get b:=λb _ y=>ar.get b J;have ax:=w.mono (ay _) (ay _) ej;simp[aE];refine jy Lv Y ⟨d,U,V,aX⟩ ⟨rfl,⟨.inr ax.ga,.inr ax.gb,ax.el.imp λ_ _ r=>r.1,λe m he ap=>?_⟩,eo,by have:=u.rl;simp only;omega,by have:=u.tl;simp only;omega,λl hl=>iV (u.tn l hl).1⟩ ?_;rcases he with rfl|rfl|he;have:=(w.ba m ap).2.1;omega;have:=(w.bb m ap).2;omega;have⟨l,r,k⟩:=w.el.left he;have:=(k m ap).2.1;omega;rintro _ g ⟨a1,p,es1,rfl,b9,z⟩;simp only at b9;have eK:=z.ok.sz;have cp:=(z.get _ J).trans cb;have B:=(z.get _ J).trans aE;have cL:=(z.get _ J).trans W;have b6:Nb a (fQ g (a.size+1) (eg 4 1 [.agg [M d.pC,a1,p,M d.eZ]])):=(ar.trans z).put B J _;have ey:=b9.mono (lo':=a.size+1+1+1) (hi':=(fQ g (a.size+1) (eg 4 1 [.agg [M d.pC,a1,p,M d.eZ]])).size) (h':=fQ g (a.size+1) (eg 4 1 [.agg [M d.pC,a1,p,M d.eZ]])) J Y λb y _=>by rw[fj B,aq J]
 have eI:jk 0 g:=⟨z.ok.hp,z.ok.low,az _⟩;have c1:(fQ g (a.size+1) (eg 4 1 [.agg [M d.pC,a1,p,M d.eZ]])).get a.size=_:=(show(fQ g (a.size+1) (eg 4 1 [.agg [M d.pC,a1,p,M d.eZ]])).get a.size=g.get a.size by rw[fj B,aq J]).trans cp;have c4:(fQ g (a.size+1) (eg 4 1 [.agg [M d.pC,a1,p,M d.eZ]])).get (a.size+1)=_:=(fj B _ _).trans (au rfl);have aN:(fQ g (a.size+1) (eg 4 1 [.agg [M d.pC,a1,p,M d.eZ]])).get (a.size+1+1)=_:=(show(fQ g (a.size+1) (eg 4 1 [.agg [M d.pC,a1,p,M d.eZ]])).get (a.size+1+1)=g.get (a.size+1+1)by rw[fj B,aq J]).trans cL;simp[EX,B,fN];generalize fQ g (a.size+1) _=eE at*
 refine io (b.j3.length+1) J (λP A h'=>∃s F I X S,SeS b d T a h' s F I X S/\jg A 2 a.size/\jg A 3 (a.size+1)/\jg A 4 (a.size+1+1)/\iS A 6 P) ?_ ?_ J ?_;rintro P A h' eF de ⟨s,F,I,X,S,⟨aA,q,eb,C,D,f,h,ao⟩,n⟩;have E:∀c,(fQ h' (a.size+1+1) c).get (a.size+1+1)=G c:=λc=>(fj f c _).trans (au rfl);have b8:jk 0 h':=⟨q.ok.hp,q.ok.low,az _⟩;simp[n,C,D,show(P:Int)<=b.j3.length by omega];refine fO (λN=>?_) (λN=>?_);simp[n,f,E,fN];exact Ha ok (q.put f J _);simp at N;have⟨j,L⟩:∃j:Nat,s.pC=j:=⟨s.pC.toNat,J⟩;have bu:j<b.j3.length:=J;have eh:(a.size=h'.size)=False:=dY;have bX:(a.size+1=h'.size)=False:=dY;have bZ:(a.size+1+1=h'.size)=False:=dY;have dm:=b8.low;simp[n,C,D,L,bu,dm,AE];have ea:=br _ (aG bu);generalize b.j3[j]=m at*
 have eH:=q.cons (eg 6 1 [m.t]);have eA:Z5 T s:=⟨by have:=h.rl;have:=u.rl;omega,by have:=h.tl;have:=u.rl;omega,h.tn,h.rr⟩;have eD:∀c,((fQ h' (a.size+1+1) c).cons (eg 6 1 [m.t])).get (a.size+1+1)=G c:=λc=>by rw[fH,aq dY];exact E c
 refine fO (λae=>?_) (λae=>?_);have c7:∀c:jO,∀b,a.size+1+1+1<=b->b<h'.size->((fQ h' (a.size+1+1) c).cons (eg 6 1 [m.t])).get b=h'.get b:=λc b eu av=>by rw[fH,aq dY,fj f,aq J]
 simp[n,D,f,bX,bZ,L,E,fN,show a.size+1+1<h'.size by omega];have:=ZV (i:=⟨b,d,U,V,aX,bW,bs,T⟩) (args:=[b.t,EX d U V]) (ok:=true) ok ((q.put f J (eg 4 1 [.agg [M s.pC,F,I,M s.eZ]])).cons (eg 6 1 [m.t])) (λb y=>(show a.size<=b from y)) ((aA.mono (ay _) (ay _) (c7 _)).fz (λb=>a.size<=b) λb r _=>by omega) eA (.inl ao);rw[L]at this;exact this;simp at ae;have bA:1<=m.op/\m.op<=5:=by unfold Ae at ae;simpa using ae
 have dn:decide ((P:Int)=b.j3.length)=decide (P=b.j3.length):=by rw[decide_eq_decide];omega
 simp[n,C,eh,dn];refine fO (λds=>?_) (λds=>?_);simp[n,f,bZ,fN,E,show a.size+1+1<h'.size by omega];exact Ha ok ((q.put f J _).cons _);simp[n,D,bX,L];have eB:=aA.mono (h':=h'.cons (eg 6 1 [m.t])) (ay _) (ay _) λb _ r=>by rw[fH,aq J]
 refine jy TH Y ⟨m,s,F,I,X,a.size+1+1+1,h'.size,T⟩ ⟨by simp[EX,L],eB,Y,b8.cons _,bA.1,bA.2,⟨rfl,by have:=h.rl;have:=h.tl;simp only;omega,h.tn,h.rr⟩,by have:=u.rl;have:=h.rl;simp only;omega,bi,ea⟩ ?_;rintro _ o ⟨R,a2,an,G8,et,rfl,ca,a7,Q,a8⟩;simp only[aex]at ca a7 Q a8;have eL:=Q.sz;have Z:∀b,b<a.size+1+1+1->o.get b=h'.get b:=λb r=>(a7 b J (.inl r)).trans d2;have ec:=(Z a.size J).trans C;have O:=(Z (a.size+1) J).trans D;have al:=(Z (a.size+1+1) J).trans f;have eG:(a.size=o.size)=False:=dY;have ee:(a.size+1=o.size)=False:=dY;have ef:(a.size+1+1=o.size)=False:=dY;have b7:Nb a o:=⟨⟨Q.hp,Q.low,J⟩,λb r=>(Z b J).trans (q.get b r)⟩;have c6:∀c,(fQ o (a.size+1+1) c).get (a.size+1+1)=G c:=λc=>(fj al c _).trans (au rfl);simp[EX,Q.low,fN];cases et;simp[n,al,ef,fN,c6,show a.size+1+1<o.size by omega];exact Ha ok ((b7.put al J _).cons _);have⟨t2,eC⟩:=a8 rfl;simp[n,O,ee,fN,de,show a.size+1<o.size by omega];have e:∀b,b<a.size+1+1+1->b≠a.size+1->((fQ o (a.size+1) (eg 4 (S+1) [.agg [M R.pC,a2,an,M R.eZ]])).cons (eg 4 1 [.agg [M R.pC,a2,an,M R.eZ]])).get b=o.get b:=λb eu av=>by rw[fH,aq dY,fj O,aq av]
 refine⟨R,a2,an,G8,S+1,ca.mono (ay _) Y λb r av=>?_,(b7.put O J _).cons _,dY,(e _ J J).trans ec,?_,(e _ J J).trans al,⟨t2.rl▸h.rl,t2.tl▸h.rl,t2.tn,t2.rr⟩,eC▸ao⟩;rw[fH,aq dY,fj O,aq J];rw[fH,aq dY,fj O,au rfl];rintro A h' ⟨s,F,I,X,S,⟨aA,q,eb,C,D,f,h,ao⟩,n⟩;have E:∀c,(fQ h' (a.size+1+1) c).get (a.size+1+1)=G c:=λc=>(fj f c _).trans (au rfl);have di:((b.j3.length:Int)+1<=b.j3.length)=False:=dY;simp[n,C,f,E,fN,di];exact Ha ok (q.put f J _);simp;exact⟨d,a1,p,es1,1,ey,b6,by have:=b6.ok.sz;have:=H.fV aN;omega,c1,c4,aN,⟨rfl,J,u.tn,u.rr⟩,rfl⟩
def Aw:List Int:=[3,3,4,4,5,6,7,8,9,10,11,12,13,14,15,16,18,19,20,21,22,23,2]
def pq(a:Int):Int:=if a<6\/28<a then 0 else Aw.getD (a-6).toNat 0
def Ch:iF:=⟨Int,λa=>[M a],λa=>True,λa=> M (pq a),λa c b=>by simp at b;rw[b]⟩
def T1:Ch.Ok prog cx 208:=by
 refine iD [] (jz 1037 [] func208) (λj=>1) (by simp[Ch]) ?_;rintro(b:Int) k n f;simp[Ch]at f|-;by_cases h:b<6\/28<b;have e:pq b=0:=by unfold pq;rw[au h]
 rcases h with h|h<;>simp[*,f208];have⟨a,g⟩:∃a:Nat,b=(a:Int)+6:=⟨(b-6).toNat,J⟩;subst g;have i:a<23:=J;have⟨c,e⟩:∃c,Aw[a]? =G c:=⟨_,aF (show a<Aw.length from i)⟩;have d:(Aw.map (T.int .i64))[a]? =G (M c):=by rw[bw,e];rfl
 have l:pq ((a:Int)+6)=c:=by
  unfold pq;rw[aq h,show((a:Int)+6-6).toNat=a by omega];simp[List.getD,e]
 have m:binop .sub (M ((a:Int)+6)) (M 6)=G (M (a:Int)):=by rw[my J J];congr 2;omega
 simp[Aw,aS,bR]at d;have⟨_,d⟩:=List.getElem?_eq_some_iff.1 d;simp[*,f208,show¬(a:Int)+6<6 by omega,show¬(28:Int)<(a:Int)+6 by omega]
def Yq{b:iq}(ht:b.p 208=G Ch)(a:Int):rl prog cx b 208 [M a]=G (M (pq a)):=iL ht T1 a trivial
structure acy(c:lj)(s:jG):Prop where
 v:U9 c
 f:ou c.gY s.ig
 cl:s.cells.length=c.gY.cells.length
 fu:s.fR.length=c.gY.fR.length
 th:s.eY.length=c.eY.length
 t:∀(i:Nat) (t:gJ) (x:iR),s.eY[i]? =G t->c.eY[i]? =G x->0<=t.pC/\t.pC<x.j3.length/\t.jT.length=x.jT/\t.lU.length=x.jT
def Mi{a:lj}(b:U9 a):a.gY.jl.length<=2/\a.eY.length<=4:=by have:=b.1;unfold lY wq at this;simp[aC,aP]at this;have c:=b.2.1;omega
def Lq:p8 prog cx 207 (λh:lj×jG=>[h.1.t,h.2.t]) (λh=>∀a∈h.1.eY,a.j3.length<=10000001) (λh=>GI (acy h.1 h.2)):=by
 refine jX [(81,Aq.kx),(171,wz)] (jz 158456325028530997355645763711 [] func207) (λ_=>100) (λh b g=>by simp at g;exact aD (lj.inj g.1) (jG.inj g.2)) ?_;rintro⟨f,l⟩ w m v;replace w:∀a∈f.eY,a.j3.length<=10000001:=w;simp at v;obtain⟨_,⟨b,rfl,K⟩,B⟩:=Aq.use f w;cases b;simp[f207,v,B];have C:=K rfl;have⟨V,W⟩:=Mi C;simp[f207,v,B,yp,show f.gY.jl.length<=1099511627776 by omega];refine fO (λA=>?_) (λA=>?_);simp;simp[ci,aP]at A;obtain⟨⟨⟨P,S⟩,T⟩,U⟩:=A;simp;generalize p:(hE.cons _).cons _=u;have O:jk 2 u:=p▸⟨Y,Y,Y⟩;have j:u.get 0=G (eg 7 0 [f.t]):=by rw[<-p];simp
 have n:u.get 1=G (eg 7 0 [l.t]):=by rw[<-p];simp
 clear p;refine io f.eY.length J (λe m g=>jk 2 g/\g.get 0=G (eg 7 0 [f.t])/\g.get 1=G (eg 7 0 [l.t])/\(∀(d:Nat) (c:gJ) (a:iR),d<e->l.eY[d]? =G c->f.eY[d]? =G a->0<=c.pC/\c.pC<a.j3.length/\c.jT.length=a.jT/\c.lU.length=a.jT)/\jg m 2 0/\jg m 3 1/\iS m 5 e) ?_ ?_ J ?_;rintro e m g y I ⟨i,j,n,z,o⟩;have E:=i.ne (b:=0) J;have N:=i.ne (b:=1) J;have x:e<l.eY.length:=J;have⟨c,ht⟩:∃c,l.eY[e]? =G c:=⟨_,aF x⟩;have⟨a,k⟩:∃a,f.eY[e]? =G a:=⟨_,aF y⟩;have F:l.eY[e]=c:=by rw[aF x]at ht;simpa using ht
 have H:f.eY[e]=a:=by rw[aF y]at k;simpa using k
 simp[j,n,o,y,x,E,i.low,F,H];refine fO (λs=>?_) (λs=>?_);simp[i.hp];simp[ci,aP,bg]at s;simp[o,I];refine⟨i.cons _,by simpa[E]using j,by simpa[N]using n,λd Q R L q r=>?_⟩;rcases aR d e with D|D
 exact z d Q R D q r;have:d=e:=J;subst this;rw[ht]at q;rw[k]at r;simp[aw]at q r;subst q r;exact⟨J,J,s.1.2,s.2⟩;rintro m g ⟨i,j,n,z,o⟩;simp[j,o,i.hp];exact⟨C,P,J,J,J,λd c a ht k=>z d c a (List.getElem?_eq_some_iff.1 k).1 ht k⟩;exact⟨O,j,n,λd c a L=>by omega,Y⟩
def Lp:p8 prog cx 250 (λa:Int×Int=>[M a.1,M a.2]) (λa=>True) (λ_=>IU):=by refine jX [] (jz 4275 [] func250) (λ_=>10) (λa f b=>by simp at b;exact aD b.1 b.2) ?_;rintro⟨i,d⟩ _ h c;simp at c;by_cases g:d<1;simp[*,f250];simp[*,f250,Jl (show¬d=0 by omega)];refine fO (λe=>?_) (λe=>?_)<;>simp[c,tz]
def acw(a:iK)(b:gJ):Prop:=(a.op=7\/a.op=9)->jB a.c b.jT.length=true
def Gk:p8 prog cx 209 (λb:iK×gJ=>[b.1.t,b.2.t]) (λb=>acw b.1 b.2) (λ_=>IU):=by
 refine jX [(250,Lp.kx)] (jz 1099578740959 [(6,[(1,10)]),(8,[(1,10)])] func209) (λ_=>10) (λb u h=>by simp at h;exact aD (iK.inj h.1) (gJ.inj h.2)) ?_;rintro⟨a,r⟩ c x j;replace c:acw a r:=c;simp at j;obtain⟨v,w⟩:=j;have⟨m,i⟩:=Lp.fnI (γ:=Int×Int) id (λ_=>trivial);have i:∀{l:iq},l.p 250=G (wR prog cx 250 (λb:Int×Int=>[M b.1,M b.2]) (λb=>True) (λ_=>IU))->∀g f,rl prog cx l 250 [M g,M f]=G (M (m (g,f))):=λht g f=>i ht (g,f);cases d:decide (a.op=7)with
 |true=>
  have⟨q,hr,_⟩:=jt (c (.inl (iC d)));have s:=fZ (gG.1 (c (.inl (iC d)))).1;have o:decide (a.op=6)=false:=by
   have:a.op=7:=iC d;exact bj J
  have n:decide (a.op=27)=false:=by
   have:a.op=7:=iC d;exact bj J
  simp[*,f209,tz]
 |false=>
  cases e:decide (a.op=9)with
  |true=>
   have⟨q,hr,_⟩:=jt (c (.inr (iC e)));have s:=fZ (gG.1 (c (.inr (iC e)))).1;have o:decide (a.op=6)=false:=by
    have:a.op=9:=iC e;exact bj J
   have n:decide (a.op=27)=false:=by
    have:a.op=9:=iC e;exact bj J
   simp[*,f209,tz]
  |false=>
   simp[*,f209]
   repeat' (refine fO (λk=>?_) (λk=>?_)<;>simp[k,d,e])
def Qp{a:H}(h:jk 0 a)(b:List Int)(hl:b.length<=1000000):∃f c,jE cx a 37 37 ed (sl (iE b))=be f c/\Gr c f 1 (iE b)/\Nb a c/\(∀d,fD f=G d->a.size<=d)/\(c=a\/c=a.cons ⟨1,0,0,false,false,iE b⟩):=by
 unfold jE tu pP;simp[kS,fw,nL,UK];rcases b with _|⟨g,b⟩
 exact⟨_,_,rfl,Gr.nil _ _,Nb.refl h,Y,.inl rfl⟩;refine⟨.arr a.size 0 0 (iE (g::b)).length false,a.cons ⟨1,0,0,false,false,iE (g::b)⟩,?_,Gr.new (ep:=0) (ver:=0) (ex:=false) Y,(Nb.refl h).cons _,λd e=>by simp at e;omega,.inr rfl⟩;rw[nD d1,iP];show kJ (a.ku 1 8 [] (iE (g::b)))=_;rw[sa d1 d6 (by simp at hl|-;omega)];rfl
structure PeP(c:lj)(s:jG)(th:Int)(e:gd)(t:gJ)(x:iR)(i:iK):Prop where
 f:acy c s
 n:jB th c.eY.length
 ht:s.eY[th.toNat]? =G t
 hx:c.eY[th.toNat]? =G x
 hi:x.j3[t.pC.toNat]? =G i
 k:e.kind=1\/e.kind=17\/(e.kind=pq i.op/\e.kind≠0)
def aep(a:Nat)(c:jG):Prop:=∀d∈c.eY,∀b∈d.lU,b.length<=a
def evN(a:Nat)(b:gd):Prop:=b.m9.length<=a/\b.uY.length<=a
def aaP(c:lj)(f:jG)(h:Int)(e:T):Prop:=∃(a:gd) (b:Bool),e= .tuple [a.t,.bool b]/\evN 1000000 a/\(b->∃g i d,PeP c f h a g i d)
def LU{f:lj}{m:jG}(g:acy f m){d:Int}(h:jB d f.eY.length):∃b a c,mQ d=G d.toNat/\m.eY[d.toNat]? =G b/\f.eY[d.toNat]? =G a/\mQ b.pC=G b.pC.toNat/\a.j3[b.pC.toNat]? =G c/\b.jT.length=a.jT/\b.lU.length=a.jT/\(∀e∈jQ c,0<=e/\e<a.jT)/\a.jT<=32:=by have⟨a,i,_⟩:=jt h;have j:=h;rw[<-g.th]at j;have⟨b,ht,_⟩:=jt j;have⟨p1,p2,p3,p4⟩:=g.t _ _ _ ht i;have⟨c,k⟩:∃c,a.j3[b.pC.toNat]? =G c:=⟨_,aF J⟩;have l:=g.v.2.2 a (aB i);exact⟨b,a,c,fZ (gG.1 h).1,ht,i,fZ p1,k,p3,p4,λe hr=>l.2.2 c (aB k) e hr,l.2.1⟩
structure PJ(th:Int)(t:gJ)(i:iK)(o:Int)(h':H)(dv:T)(d:List Int)(ver:Nat):Prop where
 ok:jk 6 h'
 b2:h'.get 2=G (eg 7 0 [.agg [M 0,M 0,M 0,M 0,M 0,ed,ed]])
 b3:h'.get 3=G (eg 4 1 [t.t])
 b4:h'.get 4=G (eg 6 1 [i.t])
 b5:h'.get 5=G (eg 7 ver [.agg [M th,M (pq i.op),M o,M 0,M i.j7,dv,ed]])
 g:Gr h' dv 1 (iE d)
 l:d.length<=1000000
 bx:∀c,fD dv=G c->6<=c
def PJ.app{q:Int}{u:gJ}{j:iK}{o:Int}{h:H}{r:Nat}(e:PJ q u j o h ed [] r)(k:List Int)(hl:k.length<=1000000):∃c b,jE cx h 37 37 ed (sl (iE k))=be c b/\c.je/\c.cells=[c]/\(∀a,a<6->b.get a=h.get a)/\jk 6 b/\
 ∀d,d=((eg 7 (r+1) [.agg [M q,M (pq j.op),M o,M 0,M j.j7,c,ed]]):jO)->PJ q u j o (fQ b 5 d) c k (r+1):=by
 have y:=e.ok.sz;have⟨c,b,v,m,l,s,_⟩:=Qp ⟨e.ok.hp,e.ok.low,az _⟩ k hl;have f:∀a,a<6->b.get a=h.get a:=λa i=>l.get a J;have t:jk 6 b:=⟨l.ok.hp,l.ok.low,aV y l.ok.sz⟩;have w:=(f 5 J).trans e.b5;have g:∀d a,(fQ b 5 d).get a=if a=5 then some d else b.get a:=λd a=>fj w d a;refine⟨c,b,v,m.je,m.cells,f,t,?_⟩;rintro d rfl;exact⟨t.put _ _,by rw[g,aq J];exact(f 2 J).trans e.b2,by rw[g,aq J];exact(f 3 J).trans e.b3,by rw[g,aq J];exact(f 4 J).trans e.b4,by rw[g,au rfl],m.mono λa i=>by rw[g,aq (iV (s a i))],hl,λa i=>iV (s a i)⟩
def DC:p8 prog cx 159 (λn:lj×jG×Int=>[n.1.t,n.2.1.t,M n.2.2]) (λn=>(∀x∈n.1.eY,x.j3.length<=10000001)/\aep 1000000 n.2.1) (λn=>aaP n.1 n.2.1 n.2.2):=by
 refine jX [(207,Lq.kx),(208,Ch),(209,Gk.kx)] (jz 10633824283312870803151638865622599647 [(11,[(2,8),(4,8),(6,8)]),(14,[(2,3),(2,4)])] func159) (λ_=>100) (λn c1 W=>by simp at W;exact aD (lj.inj W.1) (aD (jG.inj W.2.1) W.2.2)) ?_;rintro⟨d,s,p⟩ ⟨bT,bZ⟩ N bA
 dsimp at bT bZ
 simp at bA;obtain⟨c9,aN,K⟩:=bA;obtain⟨_,⟨c1,rfl,bN⟩,bs⟩:=Lq.use (d,s) bT
 dsimp at bN bs
 have a7:aaP d s p (.tuple [gd.t ⟨0,0,0,0,0,[],[]⟩,.bool false]):=⟨_,_,rfl,⟨Y,Y⟩,Y⟩;simp[f159,c9,aN,K,bs];refine fO (λa8=>?_) (λa8=>?_);simp;exact a7;simp[ci,bg]at a8;obtain⟨⟨rfl,cb⟩,ej⟩:=a8;have X:=bN rfl;have bi:jB p d.eY.length:=gG.2 ⟨J,J⟩;have⟨y,x,e,b6,bn,b7,dn,b8,ec,ee,b9,ef⟩:=LU X bi;have dk:jB p s.ig.eY.length:=by
  rw[(o8 X.f).2.2,<-X.v.2.1];exact bi
 have⟨u,cL,_⟩:=jt dk;simp[K,b6,bn,b7,dn,b8,cL];have ae:∀z:gd,evN 1000000 z->(z.kind=1\/z.kind=17\/(z.kind=pq e.op/\z.kind≠0))->aaP d s p (.tuple [z.t,.bool true]):=λz aN K=>⟨z,true,rfl,aN,λ_=>⟨y,x,e,X,bi,bn,b7,b8,K⟩⟩;refine fO (λcb=>?_) (λcb=>?_);simp[K];exact ae ⟨p,1,-1,0,-1,[],[]⟩ ⟨Y,Y⟩ (.inl rfl);cases ar:decide (u.jq=4)with
 |true=>
  simp[K,ar,b6,cL];exact ae ⟨p,17,u.cond,0,e.j7,[],[]⟩ ⟨Y,Y⟩ (.inr (.inl rfl))
 |false=>
 cases br:decide (u.jq=2)with
 |false=>
  simp[ar,br];exact a7
 |true=>
  have bX:∀r∈jQ e,jB r y.lU.length:=λr hr=>by have:=b9 r hr;exact gG.2 ⟨J,J⟩
  have de:acw e y:=λk=>by
   have hr:e.c∈jQ e:=by unfold jQ;rcases k with k|k<;>simp[k]
   have:=b9 _ hr;exact gG.2 ⟨J,J⟩
  obtain⟨_,⟨P,rfl⟩,bu⟩:=Gk.use (e,y) de
  dsimp at bu
  simp[ar,br,Yq,bu];refine fO (λF=>?_) (λF=>?_);simp;exact a7;have bW:pq e.op≠0:=iC F;simp;generalize L:H.cons _ _=D;have al:jk 6 D:=L▸⟨Y,Y,Y⟩;have c4:D.get 2=G (eg 7 0 [.agg [M 0,M 0,M 0,M 0,M 0,ed,ed]]):=by rw[<-L];simp
  have S:D.get 3=G (eg 4 1 [y.t]):=by rw[<-L];simp
  have T:D.get 4=G (eg 6 1 [e.t]):=by rw[<-L];simp
  have w:∃ap,D.get 5=G (eg 7 ap [.agg [M p,M (pq e.op),M P,M 0,M e.j7,ed,ed]]):=⟨3,by rw[<-L];simp⟩;clear L;obtain⟨ea,w⟩:=w;have an:∀{r:Int},r∈jQ e->∃j,mQ r=G r.toNat/\y.lU[r.toNat]? =G j/\j.length<=1000000:=λ{r} hr=>by
   have⟨j,hl,_⟩:=jt (bX r hr);exact⟨j,fZ (gG.1 (bX r hr)).1,hl,bZ y (aB bn) j (aB hl)⟩
  have eh:jk 0 D:=⟨al.hp,al.low,az _⟩;have et:=al.sz;have Z:PJ p y e P D ed [] ea:=⟨al,c4,S,T,w,Gr.nil _ _,Y,Y⟩;refine nS (λN h'=>∃V I ap,PJ p y e P h' V I ap/\jg N 6 2/\jg N 8 3/\jg N 9 4/\jg N 10 5) (λcp=>?_) (λcp=>?_) ?_;have dd:e.op=10:=iC cp;have⟨j,l1,l2,l3⟩:=an (r:=e.a) (by unfold jQ;simp[dd]);have⟨ao,o,C,R,Q,A,ca,fin⟩:=Z.app j l3;have sv:=λd (m:d<6)=>iw (A d m);have B:=(A 5 J).trans w;simp[S,T,w,l1,l2,C,R,Q,B,fN];exact⟨_,_,_,fin _ rfl⟩
  .cases U:decide (e.op=7)with
   |true=>
    have⟨j,l1,l2,l3⟩:=an (r:=e.c) (by unfold jQ;simp[show e.op=7 from iC U]);have⟨ao,o,C,R,Q,A,ca,fin⟩:=Z.app j l3;have sv:=λd (m:d<6)=>iw (A d m);have B:=(A 5 J).trans w;simp[U,S,T,w,l1,l2,C,R,Q,B,fN];exact⟨_,_,_,fin _ rfl⟩
   |false=>
   cases av:decide (e.op=9)with
   |true=>
    have⟨j,l1,l2,l3⟩:=an (r:=e.c) (by unfold jQ;simp[show e.op=9 from iC av]);have⟨ao,o,C,R,Q,A,ca,fin⟩:=Z.app j l3;have sv:=λd (m:d<6)=>iw (A d m);have B:=(A 5 J).trans w;simp[U,av,S,T,w,l1,l2,C,R,Q,B,fN];exact⟨_,_,_,fin _ rfl⟩
   |false=>
    simp[U,av];exact⟨_,_,_,Z⟩
  rintro N h' ⟨V,I,ap,i,aX⟩;have eo:=i.ok.sz;have ds:jk 0 h':=⟨i.ok.hp,i.ok.low,az _⟩;simp[aX,i.b4];refine fO (λF=>?_) (λF=>?_);have di:e.op=8\/e.op=9\/e.op=26:=by
   simp[cm,aP]at F;omega
  have⟨j,l1,l2,l3⟩:=an (r:=e.b) (by unfold jQ;rcases di with k|k|k<;>simp[k]);have⟨ao,o,C,aA,E,c6,_⟩:=Qp ds j l3;have sv:=λd (m:d<6)=>iw (E.get d J);have eb:=(E.get 2 J).trans i.b2;have B:=(E.get 5 J).trans i.b5;have O:∀h d,(fQ o 5 h).get d=if d=5 then some h else o.get d:=λh d=>fj B h d;have aE:∀h q d,(fQ (fQ o 5 h) 2 q).get d=if d=2 then some q else if d=5 then some h else o.get d:=λh q d=>by
   rw[rV (by simp;exact E.ok.hp) (uC E.ok.sz),O]
  have ax:∀h q,TI.fz (fQ (fQ o 5 h) 2 q) V=G (sl (iE I)):=λh q=>(i.g.mono (h':=fQ (fQ o 5 h) 2 q) λd m=>by
   have⟨_,_,_,_,dm,_⟩:=i.g.box m;have:=i.bx d m;rw[aE,aq J,aq J];exact E.get d (H.fV dm)).fz Y
  have c7:∀h q,TI.fz (fQ (fQ o 5 h) 2 q) ao=G (sl (iE j)):=λh q=>(aA.mono (h':=fQ (fQ o 5 h) 2 q) λd m=>by
   have:=c6 d m;rw[aE,aq J,aq J]).fz Y
  simp[aX,i.b3,i.b4,i.b5,l1,l2,C,aA.je,aA.cells,eb,B,O,aE,ax,c7,fN,E.ok.hp];exact ae ⟨p,pq e.op,P,0,e.j7,I,j⟩ ⟨i.l,l3⟩ (.inr (.inr ⟨rfl,bW⟩));have O:∀h d,(fQ h' 2 h).get d=if d=2 then some h else h'.get d:=λh d=>fj i.b2 h d;have ax:∀h,TI.fz (fQ h' 2 h) V=G (sl (iE I)):=λh=>(i.g.mono (h':=fQ h' 2 h) λd m=>by
   have:=i.bx d m;rw[O,aq J]).fz Y
  simp[aX,i.b2,i.b5,O,ax,fN,i.ok.hp];exact ae ⟨p,pq e.op,P,0,e.j7,I,[]⟩ ⟨i.l,Y⟩ (.inr (.inr ⟨rfl,bW⟩))
structure YO(n0:Nat)(h':H)(ct:T)(es:List T)(ts:List gJ)(lo hi:Nat->Nat):Prop where
 g:Gr h' ct 4 es
 l:es.length=ts.length
 e:∀(i:Nat) (e:T) (t:gJ),es[i]? =G e->ts[i]? =G t->∃a b el,e=EX t a b/\EG (lo i) (hi i) h' a b el t
 m:∀i,i<ts.length->n0<=lo i/\hi i<=h'.size
 d:∀i j,i<j->j<ts.length->hi i<=lo j
 c:∀c,fD ct=G c->n0<=c/\∀i,i<ts.length->¬(lo i<=c/\c<hi i)
def YO.mono{j:Nat}{f h':H}{k:T}{n:List T}{s:List gJ}{q h:Nat->Nat}(b:YO j f k n s q h)(C:f.size<=h'.size)(p:∀a,j<=a->a<f.size->h'.get a=f.get a):YO j h' k n s q h:=
 ⟨b.g.mono λa r=>p a (b.c a r).1 (by have⟨_,_,_,_,z,_⟩:=b.g.box r;exact H.fV z),b.l,λi v B A o=>by
   have⟨t,u,y,w,x⟩:=b.e i v B A o;have D:=b.m i (by have:=(List.getElem?_eq_some_iff.1 o).1;exact this);exact⟨t,u,y,w,x.mono (ay _) (ay _) λa E F=>p a J J⟩,λi h=>iV (b.m i h),b.d,b.c⟩
def YO.app{y:Nat}{k r D:H}{v B:T}{w:List T}{i:List gJ}{F h:Nat->Nat}(f:YO y k v w i F h)(Z:y<=k.size)(I:Nb k r){s t:T}{C:List T}{u:gJ}(W:EG k.size r.size r s t C u)(x:Xt r v 4 (w++[EX u s t]) B D):
 YO y D B (w++[EX u s t]) (i++[u]) (λa=>if a=i.length then k.size else F a) (λa=>if a=i.length then r.size else h a):=by
 have al:=I.ok.sz;have an:=x.2.2.2.sz;have A:∀b,fD v=G b->b<k.size:=λb q=>by have⟨_,_,_,_,S,_⟩:=f.g.box q;exact H.fV S
 refine⟨x.1,by simp[f.l],λa O X o j=>?_,λa h=>?_,λa E U V=>?_,λb q=>?_⟩;by_cases q:a=i.length;subst q;rw[cX (ay _),Nat.sub_self]at j;rw[cX (f.l▸ay _),f.l,Nat.sub_self]at o;simp at o j;subst o;subst j;refine⟨s,t,C,rfl,?_⟩;simp;exact W.mono (ay _) (ay _) λb K z=>x.2.1 b z λq=>iV (A b q);have h:a<i.length:=by have:=(List.getElem?_eq_some_iff.1 j).1;simp at this;omega
 rw[cN h]at j;rw[cN (f.l▸h)]at o;have⟨L,N,R,P,Q⟩:=f.e a O X o j;have ae:=f.m a h;rw[aq q,aq q];exact⟨L,N,R,P,Q.mono (ay _) (ay _) λb K z=>(x.2.1 b J λq=>((f.c b q).2 a h ⟨K,z⟩)).trans (I.get b J)⟩;simp at h;by_cases q:a=i.length;rw[au q,au q];omega;rw[aq q,aq q];have:=f.m a J;omega;simp at V;by_cases q:E=i.length;rw[aq J,au q];have:=f.m a J;omega;rw[aq J,aq q];exact f.d a E U J;rcases x.2.2.1 b q with q|q;refine⟨(f.c b q).1,λa h=>?_⟩;simp at h;by_cases p:a=i.length;rw[au p,au p];have:=A b q;omega;rw[aq p,aq p];exact(f.c b q).2 a J;refine⟨J,λa h=>?_⟩;simp at h;by_cases p:a=i.length;rw[au p,au p];omega;rw[aq p,aq p];have:=f.m a J;omega
def MH{b f:Type}{c:f->b->Prop}{d:b->f}(e:∀x,c (d x) x):∀a:List b,jw c (a.map d) a
 | []=> .nil
 |x::a=> .cons (e x) (MH e a)
def aaL(a:jG)(d:List T)(c:H):Prop:=d=[a.t]/\jk 0 c/\It a.ig [a.ig.t] c/\a.cells.length<=1000000/\a.fR.length<=1000000/\a.eY.length<=1000000/\∀b∈a.eY,b.jT.length<=1000000/\b.lU.length<=1000000/\∀e∈b.lU,e.length<=1000000
structure Cp9(s:jG)(h h':H)(c0 c2 c3 cc cf ct:T)(es:List T)(lo hi:Nat->Nat)(n0:Nat):Prop where
 nb:Nb h h'
 z:h.size<=n0
 zn:n0<=h'.size
 k0:c0.je/\c0.cells=[c0]/\c2.je/\c2.cells=[c2]/\c3.je/\c3.cells=[c3]
 gc:Gr h' cc 1 (iE s.cells)
 gf:Gr h' cf 1 (iE s.fR)
 bc:∀c,fD cc=G c->h.size<=c/\c<n0
 bf:∀c,fD cf=G c->h.size<=c/\c<n0/\fD cc≠some c
 th:YO n0 h' ct es s.eY lo hi
def Tt(g:jG)(o:List T)(i:H)(n:T)(j:H):Prop:=∃a b c d e f h l k m,n= .agg [a,M g.ig.tx,b,c,d,e,f]/\Cp9 g i j a b c d e f h l k m
structure Cq(s:jG)(h:H)(c0 c2 c3 cc cf:T)(q:Nat)(h':H)(k:Nat)(ct:T)(es:List T)(lo hi:Nat->Nat)(ver:Nat):Prop where
 nb:Nb h h'
 b1:h'.get h.size=G (eg 7 0 [s.t])
 b2:h'.get (h.size+1)=G (eg 7 0 [.agg [ed,M 0,ed,ed,ed,ed,ed]])
 b3:h'.get q=G (eg 7 ver [.agg [c0,M s.ig.tx,c2,c3,cc,cf,ct]])
 gc:Gr h' cc 1 (iE s.cells)
 gf:Gr h' cf 1 (iE s.fR)
 th:YO (q+1) h' ct es (s.eY.take k) lo hi
def Uh:(kW jG aaL Tt).Ok prog cx 182:=by
 refine jP [] [(67,kW iu It Ns),(231,kW ICp Te Nr)] (jz 2097183 [(1,[(2,3),(2,5),(2,7),(6,7),(2,9),(6,9),(2,12),(6,12),(10,12)]),(5,[(1,7)])] func182) 1000005 ?_;rintro h _ f ⟨rfl,eX,⟨_,_,p1,p2,p3,p4⟩,fW,fX,gg,eS⟩ O dk;simp at dk;have cb:=eX.hr;simp[f182,dk];generalize I:H.cons _ _=F;have e5:jk 0 F:=I▸(cb.cons _).cons _;have gM:F.size=f.size+1+1:=by rw[<-I];rfl
 have eW:Nb f F:=I▸⟨(((Nb.refl cb).cons _).cons _).ok,λa k=>((((Nb.refl cb).cons _).cons _).get a k).trans (iZ f a)⟩;have c1:F.get f.size=G (eg 7 0 [h.t]):=by rw[<-I];simp
 have c4:F.get (f.size+1)=G (eg 7 0 [.agg [ed,M 0,ed,ed,ed,ed,ed]]):=by rw[<-I];simp
 clear I;refine mZ Gm Y h.ig ⟨rfl,e5,p1,p2,p3,p4⟩ ?_;rintro _ b ⟨r,s,u,fC,rfl,N,E⟩;have gz:=E.ok.sz;have dn:jk 0 b:=⟨E.ok.hp,E.ok.low,az _⟩;have a1:=(E.get f.size J).trans c1;have a2:=(E.get (f.size+1) J).trans c4;have⟨ao,ae,bu,⟨gn,gw,bA⟩,et,X,okB⟩:=kR (cx:=cx) (sz:=1) dn (x:=sl (h.cells.map (T.int .i64))) (xs:=h.cells.map (T.int .i64)) tv rfl CS tv rfl rfl Y Y d1 dY;have⟨ap,P,an,⟨gv,gy,ar⟩,fy,K,ca⟩:=kR (cx:=cx) (sz:=1) okB (x:=sl (h.fR.map (T.int .i64))) (xs:=h.fR.map (T.int .i64)) tv rfl CS tv rfl rfl Y Y d1 dY;have c9:∀a,a<b.size->il (b.cons (eg 1 0 [])) ae a=true:=λa k=>iw ((X a k).trans d2);have dd:∀a,a<ae.size->il (ae.cons (eg 1 0 [])) P a=true:=λa k=>iw ((K a k).trans d2);have ee:=iw (E.get f.size J);have eh:=c9 f.size J;have e6:=dd f.size J;have ej:∀a,b.size+1<=a->il (b.cons (eg 1 0 [])) ae a=true:=λa k=>kf (oR _ dY);have eo:∀a,b.size+2<=a->il (ae.cons (eg 1 0 [])) P a=true:=λa k=>kf (oR _ dY);have cL:∀a,b.size<=a->il F b a=true:=λa k=>kf (oR _ J);have bs:=(X f.size J).trans a1;have c6:=(K f.size J).trans bs;have c7:=(K (f.size+1) J).trans ((X (f.size+1) J).trans a2);have gi:=dn.low;have gj:=okB.low;have gk:=ca.low;simp[aL]at bu an bA ar;rw[et]at an ar;have fs:(f.size=b.size)=False:=dY;have gB:(f.size+1=b.size)=False:=dY;have fv:(f.size=b.size+1)=False:=dY;have gD:(f.size+1=b.size+1)=False:=dY;have ef:=cL (b.size+1+1) J;have eN:r.je/\r.cells=[r]/\s.je/\s.cells=[s]/\u.je/\u.cells=[u]:=⟨N.g0.je,N.g0.cells,N.g2.je,N.g2.cells,N.g3.je,N.g3.cells⟩;obtain⟨eC,eD,eE,eF,eG,eH⟩:=eN;simp[QJ,a1,bu,an,et,fy,bs,ee,eh,cL,ej,eo,fs,fv,ef];have gm:f.size+1<b.size+1+1:=J;have fA:P.size=b.size+1+1:=J;generalize V:P.cons ⟨7,0,0,true,false,_⟩=U;have ff:U.size=b.size+1+1+1:=by rw[<-V];simp[size_cons,fA]
 have e4:jk 0 U:=V▸jk.cons ⟨ca.hp,ca.low,az _⟩ _;have bN:U.get (b.size+1+1)=G (eg 7 0 [.agg [ed,M 0,ed,ed,ed,ed,ed]]):=by
  rw[<-V,fH,au J]
 have dm:∀a,a<b.size+1+1->U.get a=P.get a:=λa k=>by rw[<-V,fH,aq J]
 generalize W:fQ U _ _=D;have gI:D.size=b.size+1+1+1:=by rw[<-W,iB,ff]
 have ea:jk 0 D:=W▸e4.put _ _;have eI:=(show D.get (b.size+1+1)=G (eg 7 1 [.agg [r,M h.ig.tx,s,u,.arr b.size ao 0 h.cells.length false,.arr (b.size+1) ap 0 h.fR.length false,ed]])by rw[<-W];exact(fj bN _ _).trans (au rfl));have L:∀a,a<b.size+1+1->D.get a=P.get a:=λa k=>by rw[<-W,fj bN,aq J];exact dm a k
 clear W V;have bT:Gr D (.arr b.size ao 0 h.cells.length false) 1 (iE h.cells):=by
  have:=Gr.new (((L b.size J).trans (K b.size J)).trans bA);simpa using this
 have bW:Gr D (.arr (b.size+1) ap 0 h.fR.length false) 1 (iE h.fR):=by
  have:=Gr.new ((L (b.size+1) J).trans ar);simpa using this
 have eV:Nb f D:=⟨⟨ea.hp,ea.low,J⟩,λa k=>(L a J).trans ((K a J).trans ((X a J).trans ((E.get a J).trans (eW.get a k))))⟩;have eu:=(L f.size J).trans c6;have ey:=(L (f.size+1) J).trans c7;have al:∀a,fD (.arr b.size ao 0 h.cells.length false)=G a->a=b.size:=λa i=>iC i.symm;have Q:∀a,fD (.arr (b.size+1) ap 0 h.fR.length false)=G a->a=b.size+1:=λa i=>iC i.symm;generalize T.arr b.size ao 0 h.cells.length false=A at*
 generalize T.arr (b.size+1) ap 0 h.fR.length false=C at*
 have a8:∀a,fD A=G a->f.size<=a/\a<b.size+1+1+1:=λa i=>iV (al a i);have bi:∀a,fD C=G a->f.size<=a/\a<b.size+1+1+1/\fD A≠some a:=λa i=>⟨iV (Q a i),iV (Q a i),λcp=>by have:=al a cp;have:=Q a i;omega⟩;have eb:∀a,fD A=G a->a≠b.size+1+1/\a≠f.size+1:=λa i=>iV (al a i);have ec:∀a,fD C=G a->a≠b.size+1+1/\a≠f.size+1:=λa i=>iV (Q a i);clear al Q bu an bA ar ee eh e6 cL ej eo ef X K c9 dd bs c6 c7 a1 a2 c1 c4 L dm bN;generalize b.size+1+1=i at*
 have fE:=bT.je;have fL:=bT.cells;have fM:=bW.je;have fP:=bW.cells;refine u5 h.eY.length (λo O h'=>∃p S a7 aN Z,Cq h f r s u A C i h' o p S a7 aN Z/\jg O 1 f.size/\jg O 2 (f.size+1)/\jg O 3 i/\iS O 4 o) ?_ J (az _) ?_;rintro o O h' fY ⟨p,S,a7,aN,Z,d,bX,de,aA,bZ⟩;simp[bX,bZ,d.b1];refine fO (λb6=>?_) (λb6=>?_);have b7:o<h.eY.length:=iC b6;have⟨m,aX⟩:∃m,h.eY[o]? =G m:=⟨_,aF b7⟩;have eO:h.eY[o]=m:=by rw[aF b7]at aX;simpa using aX
 have b9:=eS m (aB aX);simp[bX,aA,bZ,d.b1,d.b3,b7,eO];have e0:jk 0 h':=⟨d.nb.ok.hp,d.nb.ok.low,az _⟩;refine mZ Lv Y ⟨m,sl (iE m.jT),sl (m.lU.map tn1),m.lU.map tn1⟩ ⟨by rfl,⟨.inl rfl,.inl rfl,?_,?_⟩,e0,b9.1,b9.2.1,b9.2.2⟩ ?_;exact MH (λeU=> .inl rfl) _;rintro e a (rfl|rfl|he) x;simp at x;simp at x;obtain⟨eU,_,rfl⟩:=List.mem_map.1 he;simp[tn1]at x;rintro _ ax ⟨w,z,fB,rfl,fe,q⟩;have cp:i+1<=h'.size:=iV (H.fV d.b3);have p3:=(q.get i J).trans d.b3;have eK:Gr ax p 4 S:=d.th.g.mono λa x=>q.get a (by have⟨_,_,_,_,eB,_⟩:=d.th.g.box x;exact H.fV eB);have⟨bn,aE,eA,v⟩:=eK.yv (cx:=cx) ⟨q.ok.hp,q.ok.low,az _⟩ U2 rfl PX rfl Y (x:=EX m w z) rfl (by have:=d.th.l;simp at this;simp;omega);have e9:=iw (q.get i J);have e8:∀a,a<ax.size->fD p≠some a->il (ax.cons (eg 4 0 [EX m w z])) aE a=true:=λa k b8=>iw ((v.2.1 a k b8).trans d2);have br:fD p≠some i:=λx=>iV (d.th.c i x).1;have e7:=e8 i (iV q.ok.sz) br;have p4:=(v.2.1 i (iV q.ok.sz) br).trans p3;have eL:(EX m w z).je/\(EX m w z).cells=[M m.pC,w,z,M m.eZ]:=by simp[EX,T.cells]
 have fS:EX m w z= .agg [M m.pC,w,z,M m.eZ]:=rfl;simp[aA,bZ,eA,e9,eL,e7,p4,v.1.je,v.1.cells,fN];rw[jr J J];simp;refine⟨o+1,J,J,⟨bn,S++[EX m w z],λB=>if B=(h.eY.take o).length then h'.size else a7 B,λB=>if B=(h.eY.take o).length then ax.size else aN B,Z+1,?_⟩,bX,de,aA,Y⟩;have gE:=v.2.2.2.sz;have gF:=q.ok.sz;have gq:∀a,a<h'.size->a≠i->fD p≠some a->(fQ aE i (eg 7 (Z+1) [.agg [r,M h.ig.tx,s,u,A,C,bn]])).get a=h'.get a:=λa k eP b8=>by
  rw[fj p4,aq eP,v.2.1 a J b8,q.get a k]
 have R:∀a,a<=i->fD p≠some a:=λa k x=>iV (d.th.c a x).1;have ds:jk 0 aE:=⟨v.2.2.2.hp,v.2.2.2.low,az _⟩;refine⟨⟨⟨(ds.put _ _).hp,(ds.put _ _).low,by rw[iB];have:=d.nb.ok.sz;omega⟩,λa k=>(gq a J J (R a J)).trans (d.nb.get a k)⟩,
  (gq _ J J (R _ J)).trans d.b1,(gq _ J J (R _ J)).trans d.b2,(fj p4 _ _).trans (au rfl),
  d.gc.mono λa x=>gq a (iV (a8 a x)) (eb a x).1 (R a (iV (a8 a x))),d.gf.mono λa x=>gq a (iV (bi a x)) (ec a x).1 (R a (iV (bi a x))),?_⟩
 have fb:=(d.th.app cp q fe v).mono (h':=fQ aE i (eg 7 (Z+1) [.agg [r,M h.ig.tx,s,u,A,C,bn]])) (by rw[iB];exact ay _) λa x _=>by rw[fj p4,aq J]
 have eR:h.eY.take (o+1)=h.eY.take o++[m]:=by rw[dx,aX];rfl
 rw[eR];exact fb;have eM:o=h.eY.length:=by
  have:¬o<h.eY.length:=iC b6;omega
 subst eM;have di:=d.th;rw[aI]at di;have br:∀a,fD p=G a->i+1<=a:=λa x=>(d.th.c a x).1;simp[de,aA,d.b2,d.b3,fN,fj d.b2];have av:∀a,a≠f.size+1->(mV f (fQ h' (f.size+1) (eg 7 1 [.agg [r,M h.ig.tx,s,u,A,C,p]]))).get a=h'.get a:=λa k=>by rw[iJ,fj d.b2,aq k]
 refine⟨r,s,u,A,C,p,S,a7,aN,i+1,rfl,⟨⟨((jk.put (n:=0) ⟨d.nb.ok.hp,d.nb.ok.low,az _⟩ _ _).out f).hp,((jk.put (n:=0) ⟨d.nb.ok.hp,d.nb.ok.low,az _⟩ _ _).out f).low,by rw[xr,iB];exact d.nb.ok.sz⟩,λa k=>(av a J).trans (d.nb.get a k)⟩,J,by rw[xr,iB];exact H.fV d.b3,⟨eC,eD,eE,eF,eG,eH⟩,
  d.gc.mono λa x=>av a (eb a x).2,d.gf.mono λa x=>av a (ec a x).2,a8,bi,di.mono (by rw[xr,iB];exact ay _) λa x _=>av a J⟩
 refine⟨ed,[],λ_=>0,λ_=>0,1,⟨eV,eu,ey,eI,bT,bW,⟨Gr.nil _ _,rfl,Y,Y,Y,Y⟩⟩,Y⟩
section
def VU{j:Out}{e f:jH}(o:W j e)(q:∀d h,e.n d h->f.n d h)(v:∀i d h,e.x i d h->f.x i d h)(u:∀d h,e.r d h->f.r d h):W j f:=by
 obtain⟨l,d,h,m,g⟩:=o;refine⟨l,d,h,m,?_⟩;cases l with
 |normal=>exact q d h g
 |exit i=>exact v i d h g
 |ret=>exact u d h g
def Wd{cx:Ctx}{cf:jS}{z y id:Nat}{u:DL}{t:Bool}{a b:Code}{m:Env->H->Out}{d:Env}{h:H}{f:jH}(l:iM->H->Prop)(v:CK (some (.bool t)) cx cf z y u a b d h (JF m (vK id (By (λd h=>d.tmps= .nil/\l d.vars h) f))))
 (B:∀o h,l o h->f.n ⟨o,.nil⟩ h):CK (some (.bool t)) cx cf z y u a b d h (JF m (vK id f)):=by
 have q:∀d h,(d.tmps= .nil/\l d.vars h)->f.n d h:=λd h ⟨e,w⟩=>by obtain⟨o,C⟩:=d;dsimp at e w;subst e;exact B o h w
 have A:∀g,W g (vK id (By (λd h=>d.tmps= .nil/\l d.vars h) f))->W g (vK id f):=λg r=>VU r q (λi d h e=>by
  rw[CE]at e|-;split;rename_i j;rw[au j]at e;exact q d h e;rename_i j;rw[aq j]at e;exact e) λ_ _ e=>e
 have x:∀g,W g (JF m (vK id (By (λd h=>d.tmps= .nil/\l d.vars h) f)))->W g (JF m (vK id f)):=λg r=>VU r (λd h e=>A _ e) (λi d h e=>by
  rw[abn,CE]at e|-;split;rename_i j;rw[au j]at e;exact q d h e;rename_i j;rw[aq j]at e;exact e) λ_ _ e=>e
 cases t;exact x _ v;exact x _ v
def VN{s:iu}(h:s.eY.length<=1000000)(o:fU)(t k e l:Int):mH (gW o s t k e l).2:=by
 have c:∀{j:Int},-1<=j->j<=1000000->mH j:=λq r=>by unfold mH;omega
 have f:mH 0:=c J J;have d:= @rS (iu×Int) (λn=>mH n.2);unfold gW
 iterate 12 (refine d (λ_=>f) λ_=>?_)
 refine d (λ_=>d (λ_=>c J J) λm=>?_) λ_=>d (λ_=>?_) λ_=>d (λ_=>f) λ_=>d (λ_=>f) λ_=>f;have:wh e l s.eY∈jb e s.eY 0:=by
  unfold wh;split
  assumption
  rcases g:jb e s.eY 0 with _|⟨x,w⟩;exact absurd g m;simp
 have⟨v,g,u⟩:=u6 this;show mH (wh e l s.eY);rw[g];exact c J J;have:=yR e s.eY 0;exact c dZ dZ 
structure StI(s:jG):Prop where
 l:s.ig.fT.length<=1000/\s.ig.done.length<=1000/\s.ig.eY.length<=1000/\s.cells.length<=1000/\s.fR.length<=1000/\s.eY.length<=1000
 r:ET 4 s.ig
 a:s.ig.BP
 t:∀t∈s.eY,Z5 1000000 t
 ce:∀x∈s.cells,mH x
 fu:∀x∈s.fR,mH x
def evB(d:Nat)(s:jG):Prop:=∀t∈s.eY,0<=t.eZ/\t.eZ<=d
def aet(s:jG)(j:T):Prop:=∃(e:jG) (d:gd) (g:Bool),j= .tuple [e.t,d.t,.bool g]/\evN 1000000 d/\mH d.value/\(g->StI e/\∀f:Nat,evB f s->evB (f+1) e)
def EG.PA{lo l hi j:Nat}{h h':H}{a b:T}{es:List T}{s:gJ}(t:EG lo hi h a b es s)(hl:l<=lo)(r:hi<=j)(f:∀e,(e=a\/e=b\/e∈es)->∀c,fD e=G c->h'.get c=h.get c):EG l j h' a b es s:=
 ⟨t.ga.mono λc d=>f a (.inl rfl) c d,t.gb.mono λc d=>f b (.inr (.inl rfl)) c d,t.el.imp_mem λm n u d=>⟨d.1.mono λc g=>f m (.inr (.inr n)) c g,λc g=>by
   have⟨v,w,o,q⟩:=d.2 c g;exact⟨J,J,o,q⟩⟩,λc d=>by have:=t.ba c d;exact⟨J,J,this.2.2⟩,λc d=>by have:=t.bb c d;exact⟨J,J⟩⟩
def EG.fzB{lo hi:Nat}{h:H}{a b:T}{es:List T}{s:gJ}(t:EG lo hi h a b es s)(o:Nat->Prop)(n:∀m,(m=a\/m=b\/m∈es)->∀c,fD m=G c->o c):jw (FT h o 3) [M s.pC,a,b,M s.eZ] s.cs:=
 .cons (jh ..) (.cons ((show rx h 1 a (iE s.jT)from .inr t.ga).ft (d:=1) (LT _) λc g=>n a (.inl rfl) c g)
  (.cons (t.gb.ft (λc g=>n b (.inr (.inl rfl)) c g) ((t.el.imp_mem (R':=λe j=>rx h 1 e (iE j)/\e∈es) λe q j l=>⟨l.1,q⟩).XB (f:=λj=>sl (iE j)) λe j l=>l.1.ft (d:=0) (LT _) λc g=>n e (.inr (.inr l.2)) c g)) (.cons (jh ..) .nil)))
def Fg{g j:Type}{l:g->j->Prop}:∀{e:List g} {f:List j},e.length=f.length->(∀(d:Nat) (a:g) (b:j),e[d]? =G a->f[d]? =G b->l a b)->jw l e f
 | [],[],_,_=> .nil
 |a::e,b::f,hl,h=> .cons (h 0 a b rfl rfl) (Fg (iC hl) λd o q m n=>h (d+1) o q (iC m) (iC n))
 | [],_::_,hl,_=>by simp at hl
 |_::_,[],hl,_=>by simp at hl
structure SJ(c:lj)(s:jG)(ch:fG)(i:iK)(S:iu)(k p n0:Nat)(cc cf ct:T)(es:List T)(lo hi:Nat->Nat)(a b:T)(el:List T)(t:gJ)(h:H):Prop where
 ok:jk 0 h
 z:p+1+1<=h.size
 n7:7<=n0
 np:n0<=p
 b0:h.get 0=G (eg 7 0 [c.t])
 b1:h.get 1=G (eg 7 2 [.agg [sl (S.fT.map fF.t),M S.tx,sl (S.done.map T.bool),sl (S.eY.map fc.t),cc,cf,ct]])
 b2:h.get 2=G (eg 2 0 [ch.t])
 b3:h.get 3=G (eg 7 0 [.agg [ed,M 0,ed,ed,ed,ed,ed]])
 b4:h.get 4=G (eg 7 0 [.agg [M 0,M 0,M 0,M 0,M 0,ed,ed]])
 bq:h.get (p+1)=G (eg 6 1 [i.t])
 gc:∃l,Gr h cc 1 (iE l)/\l.length=s.cells.length/\∀x∈l,mH x
 gf:∃l,Gr h cf 1 (iE l)/\l.length=s.fR.length/\∀x∈l,mH x
 bc:∀c,fD cc=G c->7<=c/\c<n0
 bf:∀c,fD cf=G c->7<=c/\c<n0/\fD cc≠some c
 gt:Gr h ct 4 es
 l:es.length=s.eY.length
 m:∀j,j<s.eY.length->n0<=lo j/\hi j<=p
 d:∀i j,i<j->j<s.eY.length->hi i<=lo j
 bt:∀c,fD ct=G c->n0<=c/\c<p/\∀j,j<s.eY.length->¬(lo j<=c/\c<hi j)
 o:∀(j:Nat) (e:T) (u:gJ),j≠k->es[j]? =G e->s.eY[j]? =G u->FT h (λc=>lo j<=c/\c<hi j) 4 e u.t
 hk:k<s.eY.length
 ek:∃x y,es[k]? =G (.agg [M x,a,b,M y])
 tx:EG 7 h.size h a b el t
 xb:∀v,(v=a\/v=b\/v∈el)->∀c,fD v=G c->lo k<=c/\(c<hi k\/p+1<c)
section
variable {c:lj}{s:jG}{ch:fG}{i:iK}{S:iu}{k p n0:Nat}{cc cf ct:T}{es:List T}{lo hi:Nat->Nat}{a b:T}{el Sj:List T}{t t':gJ}{h h':H}
def SJ.gen(f:SJ c s ch i S k p n0 cc cf ct es lo hi a b el t h)(N:jk 0 h')(X:h.size<=h'.size)(u:∀c,c<h.size->c≠5->c≠p->fD cc≠some c->fD cf≠some c->fD a≠some c->fD b≠some c->h'.get c=h.get c)
 (D:∃j,Gr h' cc 1 (iE j)/\j.length=s.cells.length/\∀e∈j,mH e) (E:∃j,Gr h' cf 1 (iE j)/\j.length=s.fR.length/\∀e∈j,mH e) (O:EG 7 h'.size h' a b Sj t') (Q:∀w,(w=a\/w=b\/w∈Sj)->∀c,fD w=G c->lo k<=c/\(c<hi k\/p+1<c)):
 SJ c s ch i S k p n0 cc cf ct es lo hi a b Sj t' h':=by
 have Z:=f.z;have K:=f.n7;have L:=f.np;have V:=f.m k f.hk;have v:∀q,q<7->fD cc≠some q/\fD cf≠some q/\fD a≠some q/\fD b≠some q:=λq g=>⟨λe=>iV (f.bc q e),λe=>iV (f.bf q e),λe=>iV (f.tx.ba q e).1,λe=>iV (f.tx.bb q e).1⟩;have r:∀q,q<7->q≠5->h'.get q=h.get q:=λq g F=>u q J F J (v q g).1 (v q g).2.1 (v q g).2.2.1 (v q g).2.2.2;have n:∀q,fD a=G q\/fD b=G q->lo k<=q/\(q<hi k\/p+1<q):=λq e=>e.elim (λe=>f.xb a (.inl rfl) q e) λe=>f.xb b (.inr (.inl rfl)) q e;refine⟨N,J,K,L,(r 0 J J).trans f.b0,(r 1 J J).trans f.b1,(r 2 J J).trans f.b2,(r 3 J J).trans f.b3,(r 4 J J).trans f.b4,?_,D,E,f.bc,f.bf,f.gt.mono λq e=>?_,f.l,f.m,f.d,f.bt,λi C P x I A=>?_,f.hk,f.ek,O,Q⟩;refine(u (p+1) J J J (λe=>?_) (λe=>?_) (λe=>?_) λe=>?_).trans f.bq;have:=f.bc _ e;omega;have:=f.bf _ e;omega;have:=n _ (.inl e);omega;have:=n _ (.inr e);omega;have B:=f.bt q e;have W:=B.2.2 k f.hk;refine u q J J J (λe=>?_) (λe=>?_) (λe=>?_) λe=>?_;have:=f.bc _ e;omega;have:=f.bf _ e;omega;have:=n _ (.inl e);omega;have:=n _ (.inr e);omega;have y:i<s.eY.length:=(List.getElem?_eq_some_iff.1 A).1;have U:=f.m i y;have R:hi i<=lo k\/hi k<=lo i:=by
  rcases Nat.lt_or_gt_of_ne x with q|q;exact .inl (f.d i k q f.hk);exact .inr (f.d k i q y)
 refine(f.o i C P x I A).mono λq g=>⟨g,u q J J J (λe=>?_) (λe=>?_) (λe=>?_) λe=>?_⟩;have:=f.bc _ e;omega;have:=f.bf _ e;omega;have:=n _ (.inl e);omega;have:=n _ (.inr e);omega
def SJ.mono(d:SJ c s ch i S k p n0 cc cf ct es lo hi a b el t h)(y:jk 0 h')(l:h.size<=h'.size)(g:∀c,c<h.size->c≠5->c≠p->h'.get c=h.get c):SJ c s ch i S k p n0 cc cf ct es lo hi a b el t h':=by
 have F:=d.z;have D:=d.n7;have E:=d.np;have C:=d.m k d.hk;have⟨l1,q,n⟩:=d.gc;have⟨l2,r,o⟩:=d.gf;refine d.gen y l (λc u v w _ _ _ _=>g c u v w) ⟨l1,q.mono λe f=>?_,n⟩ ⟨l2,r.mono λe f=>?_,o⟩ (d.tx.PA (ay _) l λB j e f=>?_) d.xb;have:=d.bc e f;exact g e J J J;have:=d.bf e f;exact g e J J J;have:=d.xb B j e f;have x:e<h.size:=by
  rcases j with rfl|rfl|j;exact(d.tx.ba e f).2.1;exact(d.tx.bb e f).2;have⟨_,A⟩:=d.tx.el.left j;exact(A.2 e f).2.1
 exact g e x J J 
def SJ.cell(e:SJ c s ch i S k p n0 cc cf ct es lo hi a b el t h){f o r:Nat}{q:Bool}{u:List T}(v:fD cc=G f)(x:h.get f=G ⟨1,o,r,q,false,u⟩)(l:Nat)(g:Int)(D:mH g):SJ c s ch i S k p n0 cc cf ct es lo hi a b el t (fQ h f ⟨1,o,r+1,q,false,u.set l (M g)⟩)/\∀d,d=5\/d=p->(fQ h f ⟨1,o,r+1,q,false,u.set l (M g)⟩).get d=h.get d:=by have N:=e.n7;have O:=e.np;have K:=e.bc f v;have L:=e.m k e.hk;have⟨l1,A,w⟩:=e.gc;have⟨l2,B,z⟩:=e.gf;have n:∀d,(fQ h f ⟨1,o,r+1,q,false,u.set l (M g)⟩).get d=if d=f then some ⟨1,o,r+1,q,false,u.set l (M g)⟩else h.get d:=λd=>fj x _ d;refine⟨e.gen (e.ok.put _ _) (by rw[iB];exact ay _) (λd _ _ _ C _ _ _=>(n d).trans (aq λj=>C (by rw[j];exact v))) ⟨l1.set l g,?_,by simpa using w.1,λj F=>(bP F).elim (w.2 j) λf=>f▸D⟩ ⟨l2,B.mono λd j=>(n d).trans (aq λy=>(e.bf d j).2.2 (by rw[y];exact v)),z⟩ (e.tx.PA (ay _) (by rw[iB];exact ay _) λI E d j=>(n d).trans (aq λy=>?_)) e.xb,λd hr=>(n d).trans (aq J)⟩;have:=A.setAt v x l (M g) ((n f).trans (au rfl));simpa[iE,aY]using this;have:=e.xb I E d j;omega
def SJ.fut(e:SJ c s ch i S k p n0 cc cf ct es lo hi a b el t h){f o r:Nat}{q:Bool}{u:List T}(v:fD cf=G f)(x:h.get f=G ⟨1,o,r,q,false,u⟩)(l:Nat)(g:Int)(E:mH g):SJ c s ch i S k p n0 cc cf ct es lo hi a b el t (fQ h f ⟨1,o,r+1,q,false,u.set l (M g)⟩)/\∀d,d=5\/d=p->(fQ h f ⟨1,o,r+1,q,false,u.set l (M g)⟩).get d=h.get d:=by have N:=e.n7;have O:=e.np;have z:=e.bf f v;have L:=e.m k e.hk;have⟨l1,B,A⟩:=e.gc;have⟨l2,C,w⟩:=e.gf;have n:∀d,(fQ h f ⟨1,o,r+1,q,false,u.set l (M g)⟩).get d=if d=f then some ⟨1,o,r+1,q,false,u.set l (M g)⟩else h.get d:=λd=>fj x _ d;refine⟨e.gen (e.ok.put _ _) (by rw[iB];exact ay _) (λd _ _ _ _ D _ _=>(n d).trans (aq λj=>D (by rw[j];exact v))) ⟨l1,B.mono λd j=>(n d).trans (aq λy=>z.2.2 (by rw[<-y];exact j)),A⟩ ⟨l2.set l g,?_,by simpa using w.1,λj I=>(bP I).elim (w.2 j) λf=>f▸E⟩ (e.tx.PA (ay _) (by rw[iB];exact ay _) λK F d j=>(n d).trans (aq λy=>?_)) e.xb,λd hr=>(n d).trans (aq J)⟩;have:=C.setAt v x l (M g) ((n f).trans (au rfl));simpa[iE,aY]using this;have:=e.xb K F d j;omega
end
def zH{d k:Int}(h:pq d=k)(f:k≠0):(k=3->d=6\/d=7)/\(k=4->d=8\/d=9)/\(k=5->d=10)/\(k=22->d=26)/\(k=23->d=27):=by
 have g:6<=d/\d<=28:=by
  unfold pq at h;split at h;exact absurd h.symm f;omega
 have e:d=6\/d=7\/d=8\/d=9\/d=10\/d=11\/d=12\/d=13\/d=14\/d=15\/d=16\/d=17\/d=18\/d=19\/d=20\/d=21\/d=22\/d=23\/d=24\/d=25\/d=26\/d=27\/d=28:=J;rcases e with rfl|rfl|rfl|rfl|rfl|rfl|rfl|rfl|rfl|rfl|rfl|rfl|rfl|rfl|rfl|rfl|rfl|rfl|rfl|rfl|rfl|rfl|rfl<;>simp[pq,Aw]at h<;>omega
def MV(p:Nat)(d:iM):Prop:=jg d 3 0/\jg d 4 1/\jg d 5 2/\jg d 6 3/\jg d 7 4/\jg d 9 5/\jg d 14 p/\jg d 15 (p+1)
def Ev9(d:gd)(h:H):Prop:=∃e f,h.get 5=G (eg 7 f [gd.t ⟨d.fa,d.kind,d.obj,e,d.j7,d.m9,d.uY⟩])/\mH e
def Th9(p:Nat)(a b:T)(e f:Int)(h:H):Prop:=∃d,h.get p=G (eg 4 d [.agg [M e,a,b,M f]])
def SJ.QX{c:lj}{s:jG}{ch:fG}{i:iK}{S:iu}{k p n0:Nat}{cc cf ct:T}{es:List T}{lo hi:Nat->Nat}{a b:T}{el:List T}{t:gJ}{h:H}(f:SJ c s ch i S k p n0 cc cf ct es lo hi a b el t h){v:jO}(j:h.get 5=G v){l m:Int}(ht:Th9 p a b l m h)(d:gd)(e:Int)(g:Nat)(q:mH e):
 SJ c s ch i S k p n0 cc cf ct es lo hi a b el t (fQ h 5 (eg 7 g [gd.t ⟨d.fa,d.kind,d.obj,e,d.j7,d.m9,d.uY⟩]))/\Ev9 d (fQ h 5 (eg 7 g [gd.t ⟨d.fa,d.kind,d.obj,e,d.j7,d.m9,d.uY⟩]))/\Th9 p a b l m (fQ h 5 (eg 7 g [gd.t ⟨d.fa,d.kind,d.obj,e,d.j7,d.m9,d.uY⟩])):=by
 have w:=f.n7;have x:=f.np;obtain⟨u,o⟩:=ht;exact⟨f.mono (f.ok.put _ _) (by rw[iB];exact ay _) λr _ n _=>(fj j _ r).trans (aq n),⟨e,g,(fj j _ 5).trans (au rfl),q⟩,⟨u,(fj j _ p).trans ((aq J).trans o)⟩⟩
def ajI(p:Nat)(ct:T)(m:Int)(h:H):Prop:=∃j d e l g n,h.get p=G (eg 4 n [.agg [M j,d,e,M l]])/\d.je/\d.cells=[d]/\e.je/\e.cells=[e]/\jw (FT h (λf=>f<h.size/\f≠p/\7<=f/\fD ct≠some f) 3) [M j,d,e,M l] (gJ.cs g)/\Z5 1000000 g/\(g.eZ=m+1\/g.eZ=0)
def Lg:p8 prog cx 137 (λa:lj×jG×fG=>[a.1.t,a.2.1.t,a.2.2.t]) (λa=>(∀x∈a.1.eY,x.j3.length<=10000001)/\StI a.2.1/\evB 999000 a.2.1/\cR a.1) (λa=>aet a.2.1):=by
 refine yQ (tb:=⟨pt [(159,DC.kx),(75,uA)],ht [(182,kW jG aaL Tt),(183,kW ISe Tb F6)]⟩) ml kl (jz 12259964349774246101165194645239424850975965214878597119 [(41,[(1,2)])] func137) (λ_=>100) (λa b h=>by simp at h;exact aD (lj.inj h.1) (aD (jG.inj h.2.1) (fG.inj h.2.2))) Y nl9 ?_;rintro⟨c,s,ch⟩ ⟨gy,D,gw,hF⟩ bA hA
 dsimp at gy D gw hF
 simp at hA;obtain⟨kF,ar,av⟩:=hA;have lb:aep 1000000 s:=λt ht bu hl=>((D.t t ht).tn bu hl).1;obtain⟨_,⟨u,hV,rfl,k8,hL⟩,hf⟩:=DC.use (c,s,ch.fa) ⟨gy,lb⟩
 dsimp at hf hL
 have hK:aet s (.tuple [jG.t ⟨⟨[],0,[],[]⟩,[],[],[]⟩,gd.t ⟨0,0,0,0,0,[],[]⟩,.bool false]):=⟨_,_,_,rfl,⟨Y,Y⟩,by simp[mH],Y⟩;simp[f137,kF,ar,av,hf];cases hV with
 |false=>
  simp;exact hK
 |true=>
 have⟨t,x,i,al⟩:=hL rfl;have⟨pa,pc⟩:=Mi al.f.v;have la:QQ s.ig:=⟨iV D.l,iV D.l,iV D.l,λbu hl=>iV (D.r.len D.a bu hl),D.a⟩;have hb:rl prog cx ⟨pt [(159,DC.kx),(75,uA)],ht [(182,kW jG aaL Tt),(183,kW ISe Tb F6)]⟩ 75 [c.gY.t,s.ig.t,M ch.fa,M u.kind,M u.obj,M ch.pI]=G (BQ (c.gY,s.ig,ch.fa,u.kind,u.obj,ch.pI)):=
  iL Y IJ (c.gY,s.ig,ch.fa,u.kind,u.obj,ch.pI) ⟨dZ,la⟩
 cases gn:jK c.gY s.ig ch.fa u.kind u.obj with
 |false=>
  simp[hb,BQ,gn];exact hK
 |true=>
 simp[hb,BQ,gn];have hw:=VN (iV D.l:s.ig.eY.length<=1000000) c.gY ch.fa u.kind u.obj ch.pI;generalize k4:gW c.gY s.ig ch.fa u.kind u.obj ch.pI=jj at*
 obtain⟨S,Z⟩:=jj;simp at hw|-;have hl:=D.l;generalize bZ:H.cons _ _=b8;have hU:jk 0 b8:=bZ▸⟨Y,Y,Y⟩;have m4:b8.size=7:=by rw[<-bZ];rfl
 have mz:b8.get 0=G (eg 7 0 [c.t]):=by rw[<-bZ];simp
 have mA:b8.get 1=G (eg 7 0 [s.t]):=by rw[<-bZ];simp
 have mC:b8.get 2=G (eg 2 0 [ch.t]):=by rw[<-bZ];simp
 have mS:b8.get 3=G (eg 7 0 [.agg [ed,M 0,ed,ed,ed,ed,ed]]):=by rw[<-bZ];simp
 have m0:b8.get 4=G (eg 7 0 [.agg [M 0,M 0,M 0,M 0,M 0,ed,ed]]):=by rw[<-bZ];simp
 have m1:b8.get 5=G (eg 7 1 [u.t]):=by rw[<-bZ];simp
 have m2:b8.get 6=G (eg 4 1 [S.t]):=by rw[<-bZ];simp
 clear bZ;refine jy Uh Y s ⟨rfl,hU,⟨rfl,hU,J,J,J,λbu q=>iV (D.r.len D.a bu q)⟩,J,J,J,λX et=>⟨iV (D.t X et).rl,iV (D.t X et).tl,λbu q=>((D.t X et).tn bu q).1⟩⟩ ?_;rintro _ dm ⟨nk,nn,nr,cc,cf,ct,es,lo,hi,n0,rfl,I⟩;have m3:=I.nb.ok.sz;have ih:=I.z;rw[m4]at m3 ih;have a1:=(I.nb.get 1 J).trans mA;have a6:=(I.nb.get 6 J).trans m2;have a2:=(I.nb.get 2 J).trans mC;have a0:=(I.nb.get 0 J).trans mz;have⟨eO,nB,eP,di,dk,nE⟩:=I.k0;have p1:∀y,(fQ dm 1 y).get 1=G y:=λy=>(fj a1 y _).trans (au rfl);have p6:∀y,(fQ dm 1 y).get 6=dm.get 6:=λy=>(fj a1 y _).trans (aq J);simp[a1,fN,p1,p6,a6];generalize eE:fQ (fQ dm 1 _) 1 _=B;have pd:B.size=dm.size:=by rw[<-eE];simp
 have lw:jk 0 dm:=⟨I.nb.ok.hp,I.nb.ok.low,az _⟩;have okB:jk 0 B:=eE▸(lw.put _ _).put _ _;have hY:=(show B.get 1=G (eg 7 2 [.agg [sl (S.fT.map fF.t),M S.tx,sl (S.done.map T.bool),sl (S.eY.map fc.t),cc,cf,ct]])by rw[<-eE];exact(fj (p1 _) _ _).trans (au rfl));have c6:∀k,k≠1->B.get k=dm.get k:=λk b9=>by rw[<-eE,fj (p1 _),aq b9,fj a1,aq b9]
 clear eE p1 p6;have hX:=(c6 0 J).trans a0;have hZ:=(c6 2 J).trans a2;have lM:=(c6 5 J).trans ((I.nb.get 5 J).trans m1);have lF:=(c6 3 J).trans ((I.nb.get 3 J).trans mS);have lG:=(c6 4 J).trans ((I.nb.get 4 J).trans m0);have P:=I.th.mono (h':=B) J λk b9 _=>c6 k J;have b9:=al.n;rw[<-al.f.th]at b9;have⟨e9,ae⟩:=gG.1 b9;have ca:=al.ht;have gm:∃hg,es[ch.fa.toNat]? =G hg:=⟨_,aF (P.l▸ae)⟩;obtain⟨hg,eX⟩:=gm;obtain⟨a,b,el,rfl,fy⟩:=P.e _ _ _ eX ca;have⟨F,hh,ic,ext,ie,t1,t2,t3,t4⟩:=P.g.CD (te:=O9) rfl (i:=ch.fa.toNat) (P.l▸ae);rw[show es[ch.fa.toNat]'(P.l▸ae)=EX t a b by rw[aF (P.l▸ae)]at eX;simpa using eX]at t4;have j1:=okB.low;have m5:∀k,k<7->(k=B.size)=False:=λk b9=>by simp;omega
 have pu:∀k,k<7->(k=B.size+1)=False:=λk b9=>by simp;omega
 have W:=al.hx;have hI:=al.hi;have⟨lD,oT,oV,o0⟩:=al.f.t _ _ _ ca W;have lW:=fZ lD;simp[hX,hY,hZ,t2,t3,t4,EX,j1,fZ e9,m5,W,hI,lW];have oB:B.size<B.size+1:=J;generalize eo:fQ ((B.cons _).cons _) (B.size+1) _=bn;have pf:bn.size=B.size+1+1:=by rw[<-eo,iB];rfl
 have lz:jk 0 bn:=eo▸((okB.cons _).cons _).put _ _;have h8:bn.get B.size=G (eg 4 1 [.agg [M t.pC,a,b,M t.eZ]]):=by rw[<-eo,rV ((okB.cons _).cons _).hp (by show _<B.size+1+1;omega),aq J,fH,aq (by show¬_=B.size+1;omega),fH,au rfl]
 have lS:bn.get (B.size+1)=G (eg 6 1 [i.t]):=by rw[<-eo,rV ((okB.cons _).cons _).hp (by show _<B.size+1+1;omega),au rfl]
 have h7:∀k,k<B.size->bn.get k=B.get k:=λk b9=>by
  rw[<-eo,rV ((okB.cons _).cons _).hp (by show _<B.size+1+1;omega),aq J,fH,aq (by show¬_=B.size+1;omega),fH,aq J]
 clear eo;have r5:=(h7 5 J).trans lM;have ks:∀y,(fQ bn 5 y).get 5=G y:=λy=>(fj r5 y _).trans (au rfl);simp[h8,r5,tz,ks];have lC:jk 0 (fQ bn 5 (eg 7 2 [gd.t ⟨u.fa,u.kind,u.obj,Z,u.j7,u.m9,u.uY⟩])):=lz.put _ _;have eS:∀k,(fQ bn 5 (eg 7 2 [gd.t ⟨u.fa,u.kind,u.obj,Z,u.j7,u.m9,u.uY⟩])).get k=_:=λk=>fj r5 _ k;have ps:(fQ bn 5 (eg 7 2 [gd.t ⟨u.fa,u.kind,u.obj,Z,u.j7,u.m9,u.uY⟩])).size=bn.size:=iB ..;generalize fQ bn 5 (eg 7 2 [gd.t ⟨u.fa,u.kind,u.obj,Z,u.j7,u.m9,u.uY⟩])=br at*
 have n2:ch.fa.toNat<s.eY.length:=ae;have⟨oW,o5,oC,_,gQ,gS,_,gV,_,_,ib,_⟩:=LU al.f al.n;rw[ca]at gQ;rw[W]at gS;simp[aw]at gQ gS;subst gQ;subst gS;rw[hI]at gV;cases gV;have eG:∀K:Int,u.kind=K->K≠1->K≠17->K≠0->pq i.op=K:=λK ar av bi c4=>by
  rcases al.k with q|q|q;omega;omega;omega
 have gv:=gn;unfold jK at gv;simp[aC]at gv;have e5:=gv.1.2;have hG:u.kind=3\/u.kind=4->jB u.obj s.cells.length=true:=λq=>by
  rw[al.f.cl];unfold ko at e5;rcases q with q|q<;>simpa[q]using e5
 have hH:u.kind=22\/u.kind=23->jB u.obj s.fR.length=true:=λq=>by
  rw[al.f.fu];unfold ko at e5;rcases q with q|q<;>simpa[q]using e5
 have h4:u.kind=3\/u.kind=23\/u.kind=5->0<=i.a/\i.a<x.jT:=λq=>by
  refine ib _ ?_;unfold jQ;rcases q with q|q|q
  rcases(zH (eG 3 q J J J) J).1 rfl with k|k<;>simp[k];simp[(zH (eG 23 q J J J) J).2.2.2.2 rfl];simp[(zH (eG 5 q J J J) J).2.2.1 rfl]
 have h5:u.kind=4\/u.kind=22->0<=i.b/\i.b<x.jT:=λq=>by
  refine ib _ ?_;unfold jQ;rcases q with q|q
  rcases(zH (eG 4 q J J J) J).2.1 rfl with k|k<;>simp[k];simp[(zH (eG 22 q J J J) J).2.2.2.1 rfl]
 have Q:SJ c s ch i S ch.fa.toNat B.size n0 cc cf ct es lo hi a b el t br:=by
  have b6:∀k,k<B.size->k≠5->br.get k=B.get k:=λk ar av=>(eS k).trans ((aq av).trans (h7 k ar));have oD:=P.m _ ae;have lp:n0<=B.size:=iV I.zn;refine⟨lC,J,ih,lp,(b6 0 J J).trans hX,(b6 1 J J).trans hY,(b6 2 J J).trans hZ,(b6 3 J J).trans lF,(b6 4 J J).trans lG,?_,
   ⟨_,I.gc.mono λq x=>?_,rfl,D.ce⟩,⟨_,I.gf.mono λq x=>?_,rfl,D.fu⟩,λq x=>?_,λq x=>?_,P.g.mono λq x=>?_,P.l,P.m,P.d,λq x=>?_,λj u X e0 gm et=>?_,ae,⟨_,_,eX⟩,fy.PA J J λaN e8 q x=>?_,λaN e8 q x=>?_⟩
  exact(eS _).trans ((aq J).trans lS);have:=I.bc q x;exact(b6 q J J).trans (c6 q J);have:=I.bf q x;exact(b6 q J J).trans (c6 q J);have:=I.bc q x;omega;have:=I.bf q x;exact⟨J,this.2.1,this.2.2⟩;have⟨_,_,_,_,fP,_⟩:=P.g.box x;have:=(P.c q x).1;exact b6 q (H.fV fP) J;have⟨_,_,_,_,fP,_⟩:=P.g.box x;exact⟨(P.c q x).1,H.fV fP,(P.c q x).2⟩;obtain⟨fC,fE,Sj,rfl,lX⟩:=P.e j u X gm et;have lh:=P.m j (List.getElem?_eq_some_iff.1 et).1;exact .inr (.inr ⟨_,_,rfl,(lX.mono (h':=br) (ay _) (ay _) λq ar av=>b6 q J J).fz _ λq ar av=>⟨ar,av⟩,rfl⟩)
  all_goals
   have hC:lo ch.fa.toNat<=q/\q<hi ch.fa.toNat:=by
    rcases e8 with rfl|rfl|e8;have:=fy.ba q x;omega;exact fy.bb q x;have⟨_,w⟩:=fy.el.left e8;have:=w.2 q x;exact⟨this.1,this.2.1⟩
  exact b6 q J J;exact⟨hC.1,.inl hC.2⟩
 refine Wd (λbA h=>MV B.size bA/\(∃gI,iS bA 16 gI)/\SJ c s ch i S ch.fa.toNat B.size n0 cc cf ct es lo hi a b el t h/\Ev9 u h/\Th9 B.size a b t.pC t.eZ h) ?_ ?_
 .have V:=(eS 5).trans (au rfl);have ej:=(eS B.size).trans ((aq J).trans h8);have eM:Ev9 u br:=⟨Z,2,V,hw⟩;have cb:Th9 B.size a b t.pC t.eZ br:=⟨1,ej⟩;cases nv:decide (u.kind=1)with
  |true=>
   simp[ej,MV];exact⟨Q,eM,cb⟩
  |false=>
  cases cL:decide (u.kind=16)with
  |true=>
   simp[cL,ej,MV];exact⟨Q,eM,cb⟩
  |false=>
  cases dd:decide (u.kind=2)with
  |true=>
   simp[cL,dd,ej,MV];exact⟨Q,eM,cb⟩
  |false=>
  cases de:decide (u.kind=3)with
  |true=>
   have⟨l1,b7,aA⟩:=Q.gc;have bs:=gG.1 (hG (.inl (iC de)));have⟨p1,U,bN⟩:=(show rx br 1 cc (iE l1)from .inr b7).idx (te:=KK) rfl rfl (i:=u.obj.toNat) (x:= M l1[u.obj.toNat]) (by simp[aA,bs.2]) rfl;simp[cL,dd,de,V,Q.b1,fZ bs.1,U,bN,MV];exact Q.QX V cb u _ _ (aA.2 _ (aG _))
  |false=>
  cases ef:decide (u.kind=23)with
  |true=>
   have⟨l1,b7,aA⟩:=Q.gf;have bs:=gG.1 (hH (.inr (iC ef)));have⟨p1,U,bN⟩:=(show rx br 1 cf (iE l1)from .inr b7).idx (te:=KK) rfl rfl (i:=u.obj.toNat) (x:= M l1[u.obj.toNat]) (by simp[aA,bs.2]) rfl;simp[cL,dd,de,ef,V,Q.b1,fZ bs.1,U,bN,MV];exact Q.QX V cb u _ _ (aA.2 _ (aG _))
  |false=>
  have e6:=(D.t t (aB ca)).rr;have fW:rx br 1 a (iE t.jT):= .inr Q.tx.ga;have fv:∀x y:Int,mT (M x) 0 [M y]=G (M y):=λx y=>rfl;cases eh:decide (u.kind=4)with
  |true=>
   have gP:=h5 (.inl (iC eh));have bs:=gG.1 (hG (.inr (iC eh)));have⟨p1,U,bN⟩:=fW.idx (te:=KK) rfl rfl (i:=i.b.toNat) (x:= M t.jT[i.b.toNat]) (by simp[show i.b.toNat<t.jT.length by omega]) rfl;have⟨aE,aX,t5⟩:=Q.QX V cb u t.jT[i.b.toNat] 3 (e6 _ (aG _));have dk:=(fj V (eg 7 3 [gd.t ⟨u.fa,u.kind,u.obj,t.jT[i.b.toNat],u.j7,u.m9,u.uY⟩]) 5).trans (au rfl);simp[cL,dd,de,ef,eh,V,ej,Q.bq,fZ gP.1,U,bN,MV];generalize fQ br 5 (eg 7 3 [gd.t ⟨u.fa,u.kind,u.obj,t.jT[i.b.toNat],u.j7,u.m9,u.uY⟩])=ax at*
   have⟨l1,b7,aA⟩:=aE.gc;have⟨q,ap,mi,hj,mq,gE,gF,eI,eK⟩:=b7.CD (te:=KK) rfl (i:=u.obj.toNat) (by simpa[aA]using bs.2);simp at eK;have⟨gD,eC⟩:=aE.cell gE eI u.obj.toNat t.jT[i.b.toNat] (e6 _ (aG _));simp[aE.b1,dk,fZ bs.1,gF,eI,eK,fv];obtain⟨gZ,ha,gz,gB⟩:=aX;obtain⟨eu,ea⟩:=t5;exact⟨gD,⟨gZ,ha,(eC 5 (.inl rfl)).trans gz,gB⟩,eu,(eC _ (.inr rfl)).trans ea⟩
  |false=>
  cases eA:decide (u.kind=22)with
  |true=>
   have gP:=h5 (.inr (iC eA));have bs:=gG.1 (hH (.inl (iC eA)));have⟨p1,U,bN⟩:=fW.idx (te:=KK) rfl rfl (i:=i.b.toNat) (x:= M t.jT[i.b.toNat]) (by simp[show i.b.toNat<t.jT.length by omega]) rfl;have⟨aE,aX,t5⟩:=Q.QX V cb u t.jT[i.b.toNat] 3 (e6 _ (aG _));have dk:=(fj V (eg 7 3 [gd.t ⟨u.fa,u.kind,u.obj,t.jT[i.b.toNat],u.j7,u.m9,u.uY⟩]) 5).trans (au rfl);simp[cL,dd,de,ef,eh,eA,V,ej,Q.bq,fZ gP.1,U,bN,MV];generalize fQ br 5 (eg 7 3 [gd.t ⟨u.fa,u.kind,u.obj,t.jT[i.b.toNat],u.j7,u.m9,u.uY⟩])=ax at*
   have⟨l1,b7,aA⟩:=aE.gf;have⟨q,ap,mi,hj,mq,gE,gF,eI,eK⟩:=b7.CD (te:=KK) rfl (i:=u.obj.toNat) (by simpa[aA]using bs.2);simp at eK;have⟨gD,eC⟩:=aE.fut gE eI u.obj.toNat t.jT[i.b.toNat] (e6 _ (aG _));simp[aE.b1,dk,fZ bs.1,gF,eI,eK,fv];obtain⟨gZ,ha,gz,gB⟩:=aX;obtain⟨eu,ea⟩:=t5;exact⟨gD,⟨gZ,ha,(eC 5 (.inl rfl)).trans gz,gB⟩,eu,(eC _ (.inr rfl)).trans ea⟩
  |false=>
  cases fM:decide (u.kind=5)with
  |false=>
   simp[cL,dd,de,ef,eh,eA,fM,MV];exact⟨Q,eM,cb⟩
  |true=>
   have fs:=h4 (.inr (.inr (iC fM)));have⟨p1,U,bN⟩:=fW.idx (te:=KK) rfl rfl (i:=i.a.toNat) (x:= M t.jT[i.a.toNat]) (by simp[show i.a.toNat<t.jT.length by omega]) rfl;have⟨aE,aX,t5⟩:=Q.QX V cb u 1 3 (by simp[mH]);have dk:=(fj V (eg 7 3 [gd.t ⟨u.fa,u.kind,u.obj,1,u.j7,u.m9,u.uY⟩]) 5).trans (au rfl);simp[cL,dd,de,ef,eh,eA,fM,V,MV];generalize fQ br 5 (eg 7 3 [gd.t ⟨u.fa,u.kind,u.obj,1,u.j7,u.m9,u.uY⟩])=ax at*
   have⟨p1,U,bN⟩:=(show rx ax 1 a (iE t.jT)from .inr aE.tx.ga).idx (te:=KK) rfl rfl (i:=i.a.toNat) (x:= M t.jT[i.a.toNat]) (by simp[show i.a.toNat<t.jT.length by omega]) rfl;obtain⟨eu,ea⟩:=t5;have⟨hO,mg,t6⟩:=aE.QX dk ⟨eu,ea⟩ u 0 4 (by simp[mH]);have j0:=hO.bq;simp[ea,aE.bq,fZ fs.1,U,bN];refine fO (λq=>?_) (λq=>?_);simp[dk,j0];exact⟨hO,mg,t6⟩;simp;exact⟨aE,aX,eu,ea⟩
 rintro bA h ⟨⟨bi,c4,ax,bT,bW,bX,a8,c1⟩,⟨eb,eV⟩,A,⟨aN,aX,a7,c9⟩,cp,ap⟩;simp[bX,a7];have oQ:=A.ok;refine nS (λbA h=>MV B.size bA/\(∃gI,iS bA 16 gI)/\∃Sj t',t'.pC=t.pC/\t'.eZ=t.eZ/\Z5 1000000 t'/\SJ c s ch i S ch.fa.toNat B.size n0 cc cf ct es lo hi a b Sj t' h/\Ev9 u h/\Th9 B.size a b t.pC t.eZ h) (λL=>?_) (λL=>?_) ?_;have fs:=h4 (by simpa[or_assoc]using(by simpa using L:u.kind=3\/u.kind=23).elim .inl λq=> .inr (.inl q));have n8:el.length=t.lU.length:=A.tx.el.length;have kK:i.a.toNat<t.jT.length:=J;have kX:i.a.toNat<el.length:=J;have⟨an,kg,mj,kk,mx,eF,k1,gj,hB⟩:=A.tx.ga.CD (te:=KK) rfl (i:=i.a.toNat) (iC kK);simp at hB;have fv:∀x y:Int,mT (M x) 0 [M y]=G (M y):=λx y=>rfl;have lm:=A.n7;have oI:=A.np;have oA:=A.z;have hD:=A.tx.ba an eF;have oj:=A.xb a (.inl rfl) an eF;have n9:=A.m _ A.hk;simp[bX,a8,c1,ap,a7,A.bq,fZ fs.1,k1,gj,hB,fv];generalize lg:jO.mk 1 kg (mj+1) kk false (mx.set i.a.toNat (M aN))=ec at*
 have ey:∀w,(fQ h an ec).get w=if w=an then some ec else h.get w:=λw=>fj gj ec w;have lu:jk 0 (fQ h an ec):=A.ok.put _ _;have pb:(fQ h an ec).size=h.size:=iB ..;have j2:=(ey B.size).trans ((aq J).trans ap);have j5:=(ey (B.size+1)).trans ((aq J).trans A.bq);have nz:=(ey 5).trans ((aq J).trans a7);generalize n1:fQ h an ec=O at*
 have eU:Gr O b 1 el:=A.tx.gb.mono λw hr=>(ey w).trans (aq λx=>hD.2.2 (by rw[<-x];exact hr));have⟨ao,eB,fA,eN,fB,dn,k5,eW,gk⟩:=(eU.mono (h':=O.cons (eg 1 0 [M t.eZ])) λw hr=>by rw[fH,aq (iV (A.tx.bb w hr).2)]).CD (te:=uu) rfl (i:=i.a.toNat) kX;have⟨nw,k7,lR⟩:=A.tx.el.get (aF (show i.a.toNat<t.lU.length by omega));have lT:=Bf (x:= .arr O.size 0 0 1 false) lR.1.na;replace gk:=gk.trans ((aF _).symm.trans k7);have k6:b= .arr ao eB 0 el.length false:=by
  have⟨_,_,_,_,q,u⟩:=(eU.mono (h':=O.cons (eg 1 0 [M t.eZ])) λw hr=>by rw[fH,aq (iV (A.tx.bb w hr).2)]).box dn;rw[eW]at q;simp at q;rw[u,q.1]
 simp[a8,c1,eV,j2,j5,fZ fs.1,k5,eW,gk,lT];have nY:=A.tx.bb ao dn;have ov:=A.xb b (.inr (.inl rfl)) ao dn;have k3:an≠ao:=λq=>hD.2.2 (q▸dn);have lB:jk 0 (fQ (O.cons (eg 1 0 [M t.eZ])) ao ⟨1,eB,fA+1,eN,false,fB.set i.a.toNat (.arr O.size 0 0 1 false)⟩):=(lu.cons _).put _ _;have pn:(fQ (O.cons (eg 1 0 [M t.eZ])) ao ⟨1,eB,fA+1,eN,false,fB.set i.a.toNat (.arr O.size 0 0 1 false)⟩).size=h.size+1:=by rw[iB];show O.size+1=_;omega
 have eL:∀w,(fQ (O.cons (eg 1 0 [M t.eZ])) ao ⟨1,eB,fA+1,eN,false,fB.set i.a.toNat (.arr O.size 0 0 1 false)⟩).get w=if w=ao then some ⟨1,eB,fA+1,eN,false,fB.set i.a.toNat (.arr O.size 0 0 1 false)⟩else if w=O.size then some (eg 1 0 [M t.eZ])else if w=an then some ec else h.get w:=λw=>(fj eW _ w).trans (by rw[fH,ey]);generalize fQ (O.cons _) ao _=gg at*
 have kD:=(eU.mono (h':=O.cons (eg 1 0 [M t.eZ])) λw hr=>by rw[fH,aq (iV (A.tx.bb w hr).2)]).setAt dn eW i.a.toNat (.arr O.size 0 0 1 false) (h':=gg) ((eL ao).trans (au rfl));have kB:=A.tx.ga.setAt eF gj i.a.toNat (M aN) (h':=gg) ((eL an).trans ((aq k3).trans ((aq J).trans ((au rfl).trans (by rw[lg])))));have ee:∀w,w<h.size->w≠an->w≠ao->gg.get w=h.get w:=λw ar av bi=>(eL w).trans ((aq bi).trans ((aq J).trans (aq av)));have j6:∀w,fD a=G w->w=an:=λw hr=>by rw[eF]at hr;simpa using hr.symm
 have kc:∀w,fD b=G w->w=ao:=λw hr=>by rw[dn]at hr;simpa using hr.symm
 have nZ:=gw t (aB ca);have e7:=D.t t (aB ca);have ff:∀w,fD a≠some w->fD b≠some w->w≠an/\w≠ao:=λw ar av=>⟨λx=>ar (x▸eF),λx=>av (x▸dn)⟩;refine⟨by simp[MV,bi,c4,ax,bT,bW,bX,a8,c1],el.set i.a.toNat (.arr O.size 0 0 1 false),⟨t.pC,t.jT.set i.a.toNat aN,t.lU.set i.a.toNat [t.eZ],t.eZ⟩,rfl,rfl,⟨iC e7.rl,iC e7.tl,λbu hl=>?_,λx W=>(bP W).elim (e7.rr x) λq=>q▸c9⟩,
  A.gen lB J (λw ar av bi _ _ bT bW=>ee w ar (ff w bT bW).1 (ff w bT bW).2) ?_ ?_ ⟨by simpa[iE,aY]using kB,kD,A.tx.el.set i.a.toNat ⟨.inr ?_,λw hr=>?_⟩ λu bu q=>⟨q.1.mono λw hr=>?_,λw hr=>?_⟩,λw hr=>?_,λw hr=>?_⟩ λZ hw w hr=>?_,⟨aN,aX,(ee 5 J J J).trans a7,c9⟩,cp,(ee _ J J J).trans ap⟩
 rcases bP hl with q|rfl;exact e7.tn bu q;exact⟨Y,λx W=>by simp at W;subst W;omega⟩;have⟨l1,eO,U⟩:=A.gc;exact⟨l1,eO.mono λw hr=>by have:=A.bc w hr;exact ee w J J J,U⟩;have⟨l1,eO,U⟩:=A.gf;exact⟨l1,eO.mono λw hr=>by have:=A.bf w hr;exact ee w J J J,U⟩;have:=Gr.new ((eL O.size).trans ((aq J).trans (au rfl)));simpa using this;simp at hr;subst hr;exact⟨J,J,λq=>iV (j6 _ q),λq=>iV (kc _ q)⟩;have⟨ae,hP,fb,fe⟩:=q.2 w hr;exact ee w hP (ff w fb fe).1 (ff w fb fe).2;have⟨ae,hP,fb,fe⟩:=q.2 w hr;exact⟨ae,J,fb,fe⟩;have:=A.tx.ba w hr;exact⟨this.1,J,this.2.2⟩;have:=A.tx.bb w hr;exact⟨this.1,J⟩;rcases hw with rfl|rfl|hw;exact A.xb _ (.inl rfl) w hr;exact A.xb _ (.inr (.inl rfl)) w hr;rcases bP hw with q|rfl;exact A.xb Z (.inr (.inr q)) w hr;simp at hr;subst hr;omega;simp[MV,bi,c4,ax,bT,bW,bX,a8,c1,eV];exact⟨el,t,rfl,rfl,D.t _ (aB ca),A,⟨aN,aX,a7,c9⟩,cp,ap⟩;rintro bA h ⟨⟨bi,c4,ax,bT,bW,bX,a8,c1⟩,⟨eb,eV⟩,Sj,t',og,oi,c7,A,⟨aN,aX,a7,c9⟩,cp,ap⟩;have eD:∀y,(fQ h B.size y).get B.size=G y:=λy=>(fj ap y _).trans (au rfl);have hs:∀y,∀q,q<7->(fQ h B.size y).get q=h.get q:=λy q L=>(fj ap y _).trans (aq J);have hq:∀y C,(fQ (fQ h B.size y) B.size C).get B.size=G C:=λy C=>(fj (eD y) C _).trans (au rfl);have fY:∀y C,∀q,q<7->(fQ (fQ h B.size y) B.size C).get q=h.get q:=λy C q L=>(fj (eD y) C _).trans ((aq J).trans (hs y q L));simp[bX,a8,eV,a7,ap,tz,fN,eD,fY];have k6:=gw t (aB ca);have lc:IntKind.i64.wrap (t.eZ+1)=t.eZ+1:=by rw[<-kZ,lA J J]
 rw[lc];have Rn:jk 0 (fQ (fQ h B.size (eg 4 (cp+1) [.agg [M t.pC,a,b,M (t.eZ+1)]])) B.size ⟨4,0,cp+1+1,true,false,[.agg [M eb,a,b,M (t.eZ+1)]]⟩):=(A.ok.put _ _).put _ _;have E:=A.mono Rn (by rw[iB,iB];exact ay _) λq _ _ L=>by rw[fj (eD _),aq L,fj ap,aq L]
 have hd:=(fY (eg 4 (cp+1) [.agg [M t.pC,a,b,M (t.eZ+1)]]) ⟨4,0,cp+1+1,true,false,[.agg [M eb,a,b,M (t.eZ+1)]]⟩ 5 J).trans a7;have gM:=hq (eg 4 (cp+1) [.agg [M t.pC,a,b,M (t.eZ+1)]]) ⟨4,0,cp+1+1,true,false,[.agg [M eb,a,b,M (t.eZ+1)]]⟩;generalize fQ (fQ h B.size _) B.size _=hv at*
 clear eD hs hq fY A ap a7;refine nS (λbA h=>MV B.size bA/\SJ c s ch i S ch.fa.toNat B.size n0 cc cf ct es lo hi a b Sj t' h/\Ev9 u h/\ajI B.size ct t.eZ h) (λL=>?_) (λL=>?_) ?_;have hM:=aB W;simp[bi,ax,a8,E.b0,E.b2,fZ e9,W,gM];refine jy TL Y ⟨x,⟨eb,t'.jT,t'.lU,t.eZ+1⟩,a,b,Sj,7,hv.size,1000000⟩ ⟨rfl,E.tx.same rfl rfl,ay _,Rn,⟨c7.rl,c7.tl,c7.tn,c7.rr⟩,ay _,gy x hM,hF.1 x hM⟩ ?_;rintro _ hE ⟨X,hV,rfl,gX,ia,pm,fS,hS⟩;have pk:=E.z;have hW:=(fS B.size J).trans gM;have fX:∀y,∀q,(fQ hE B.size y).get q=if q=B.size then some y else hE.get q:=λy q=>fj hW y q;simp[MV,bi,c4,ax,bT,bW,bX,a8,c1,hW,fN];have ii:=E.mono (h':=hE) hS J λq L _ _=>fS q L;refine⟨ii.mono (hS.put _ _) (by rw[iB];exact ay _) λq _ _ L=>(fX _ q).trans (aq L),⟨aN,aX,(fX _ 5).trans ((aq J).trans ((fS 5 J).trans hd)),c9⟩,X.pC,sl (iE X.jT),sl (X.lU.map tn1),X.eZ,X,_,(fX _ _).trans (au rfl),Y,Y,Y,Y,?_,gX,ia⟩;exact .cons (jh ..) (.cons (uq _ _ _ λx W=>(LT _ x W).1) (.cons (uq _ _ _ λx W=>by obtain⟨bu,_,rfl⟩:=List.mem_map.1 W;simp[tn1]) (.cons (jh ..) .nil)));simp[MV,bi,c4,ax,bT,bW,bX,a8,c1];refine⟨E,⟨aN,aX,hd,c9⟩,_,_,_,_,⟨eb,t'.jT,t'.lU,t.eZ+1⟩,_,gM,E.tx.ga.je,E.tx.ga.cells,E.tx.gb.je,E.tx.gb.cells,(E.tx.same (s':=⟨eb,t'.jT,t'.lU,t.eZ+1⟩) rfl rfl).fzB _ λZ hw q x=>?_,⟨c7.rl,c7.tl,c7.tn,c7.rr⟩,.inl rfl⟩;have o2:=E.xb Z hw q x;have o3:=E.m _ E.hk;have o4:=E.n7;have mm:q<hv.size:=by
  rcases hw with rfl|rfl|hw;exact(E.tx.ba q x).2.1;exact(E.tx.bb q x).2;have⟨_,w⟩:=E.tx.el.left hw;exact(w.2 q x).2.1
 exact⟨mm,J,J,λy=>by have:=E.bt q y;have:=this.2.2 _ E.hk;omega⟩;rintro bA h ⟨⟨bi,c4,ax,bT,bW,bX,a8,c1⟩,A,⟨aN,aX,a7,c9⟩,hQ,fC,fE,hR,X,o1,lE,nF,nM,eU,nX,mc,gX,ia⟩;have⟨F,hh,ic,ext,ie,t1,t2,t3,t4⟩:=A.gt.CD (te:=O9) rfl (i:=ch.fa.toNat) (A.l▸ae);have⟨hj,nA,k9⟩:=A.ek;replace t4:=t4.trans ((aF _).symm.trans k9);have nj:=A.bt F t1;have⟨l1,b7,aA⟩:=A.gc;have⟨l2,kE,hJ⟩:=A.gf;generalize hN:jO.mk 4 hh (ic+1) ext false (ie.set ch.fa.toNat (.agg [M hQ,fC,fE,M hR]))=R;have ho:∀q,(fQ h F R).get q=if q=F then some R else h.get q:=λq=>fj t3 R q;have eR:∀q,q<7->(fQ h F R).get q=h.get q:=λq L=>(ho q).trans (aq J);have jC:=(eR 1 J).trans A.b1;have fL:=(eR 3 J).trans A.b3;have nc:=(eR 4 J).trans A.b4;have jZ:=(eR 5 J).trans a7;have eP:∀y q,(fQ (fQ h F R) 3 y).get q=if q=3 then some y else if q=F then some R else h.get q:=λy q=>(fj fL y q).trans (by rw[ho]);have di:∀y C q,(fQ (fQ (fQ h F R) 3 y) 4 C).get q=if q=4 then some C else if q=3 then some y else if q=F then some R else h.get q:=λy C q=>(fj ((eP y 4).trans ((aq J).trans ((aq J).trans A.b4))) C q).trans (by rw[eP]);have oE:(3=F)=False:=dY;have ll:(4=F)=False:=dY;have sv:∀y,il (fQ h F R) (fQ (fQ h F R) 3 y) 5:=λy=>pR fL J y;have kn:∀y C,TI.fz (fQ (fQ (fQ h F R) 3 y) 4 C) cc=G (sl (iE l1)):=λy C=>(b7.mono (h':=fQ (fQ (fQ h F R) 3 y) 4 C) λq x=>by
  have:=A.bc q x;rw[di,aq J,aq J,aq J]).fz Y
 have kp:∀y C,TI.fz (fQ (fQ (fQ h F R) 3 y) 4 C) cf=G (sl (iE l2)):=λy C=>(kE.mono (h':=fQ (fQ (fQ h F R) 3 y) 4 C) λq x=>by
  have:=A.bf q x;rw[di,aq J,aq J,aq J]).fz Y
 have kq:∀y C,TI.fz (fQ (fQ (fQ h F R) 3 y) 4 C) ct=G (sl ((s.eY.set ch.fa.toNat X).map gJ.t)):=λy C=>by
  refine(A.gt.setAt t1 t3 ch.fa.toNat (.agg [M hQ,fC,fE,M hR]) (h':=fQ (fQ (fQ h F R) 3 y) 4 C) (by rw[di,aq J,aq J,au rfl,hN])).JT (Vq:=λ_=>True) (d:=4) J (Fg (by simp[A.l]) λj x Z eH hw=>?_);rw[bw]at hw;obtain⟨mb,ds,rfl⟩:=Option.map_eq_some_iff.1 hw;by_cases e0:j=ch.fa.toNat;subst e0;rw[dt (A.l▸ae)]at eH;rw[dt ae]at ds;simp at eH ds;subst eH;subst ds;exact .inr (.inr ⟨_,_,rfl,mc.imp λ_ _ k=>k.mono λq L=>⟨trivial,by rw[di,aq J,aq J,aq (λx=>L.2.2.2 (by rw[x];exact t1))]⟩,rfl⟩);rw[List.getElem?_set_ne (λx=>e0 x.symm)]at eH ds;have lh:=A.m j (List.getElem?_eq_some_iff.1 ds).1;have lm:=A.n7;refine(A.o j x mb e0 eH ds).mono λq L=>⟨trivial,?_⟩;rw[di,aq J,aq J,aq (λx=>(A.bt F t1).2.2 j (List.getElem?_eq_some_iff.1 ds).1 (by rw[<-x];exact L))]
 simp[c4,ax,bT,bW,bX,a8,A.b1,A.b2,fZ e9,lE,t2,t3,t4,fN,hN,jC,fL,jZ,eP,di,ll,A.b4,sv,kn,kp,kq,A.ok.hp];have gi:S=(gW c.gY s.ig ch.fa u.kind u.obj ch.pI).1:=by rw[k4]
 have e4:=BS c.gY s.ig ch.fa u.kind u.obj ch.pI;rw[<-gi]at e4;refine⟨⟨S,l1,l2,s.eY.set ch.fa.toNat X⟩,⟨u.fa,u.kind,u.obj,aN,u.j7,u.m9,u.uY⟩,true,by simp[jG.t,jG.cs,aY],k8,c9,λ_=>⟨⟨⟨by rw[e4.1];omega,by rw[e4.2.1];omega,by rw[e4.2.2];omega,by rw[aA.1];omega,by rw[hJ.1];omega,dY⟩,?_,?_,λZ hw=>?_,aA.2,hJ.2⟩,λN hy Z hw=>?_⟩⟩;rw[gi];refine BR D.r _ ⟨e9,?_⟩ _ _ _;have:=al.f.th;omega;rw[gi];exact yt D.a _ _ _ _ _;rcases bP hw with q|rfl;exact D.t Z q;exact gX;rcases bP hw with q|rfl;have:=hy Z q;omega;have:=hy t (aB ca);omega
end
end
def Sp9(f:H)(a:iu)(b c:List Int):Prop:=∃g d e,rD f 2 7 g [(sl (a.fT.map fF.t),none),(M a.tx,none),(sl (a.done.map T.bool),none),(sl (a.eY.map fc.t),none),(d,some (1,iE b)),(e,some (1,iE c)),(ed,none)]
structure Tt9(c:lj)(S:iu)(Cq F:List Int)(cc cf:T)(n1 k:Nat)(h:H)(ver:Nat)(ct:T)(es:List T)(ts:List gJ)(lo hi:Nat->Nat):Prop where
 ok:jk 0 h
 n:3<=n1/\n1<=h.size
 b0:h.get 0=G (eg 7 0 [c.t])
 b1:h.get 1=G yB
 b2:h.get 2=G (eg 7 ver [.agg [sl (S.fT.map fF.t),M S.tx,sl (S.done.map T.bool),sl (S.eY.map fc.t),cc,cf,ct]])
 gc:Gr h cc 1 (iE Cq)
 gf:Gr h cf 1 (iE F)
 bx:∀q,fD cc=G q\/fD cf=G q->3<=q/\q<n1
 th:YO n1 h ct es ts lo hi
 l:ts.length=k
 t:∀t∈ts,Z5 1000000 t/\t.eZ=0
def ail(b:T):Prop:=∃a:jG,b=a.t/\StI a/\evB 0 a
def IA:p8 prog cx 83 (λk:lj=>[k.t]) (λk=>(∀x∈k.eY,x.j3.length<=10000001)/\cR k) (λ_=>ail):=by
 refine jX [(81,Aq.kx),(131,xe)] (jz 4504699140047487 [] func83) (λ_=>1005) (λa b h=>by simp at h;exact lj.inj h) ?_;rintro k ⟨di,de⟩ r a7;simp at a7;obtain⟨_,⟨b,rfl,a8⟩,eI⟩:=Aq.use k di;cases b with
 |false=>
  simp[*,f83];exact⟨⟨⟨[],0,[],[]⟩,[],[],[]⟩,rfl,⟨Y,λ_ b=>by simp at b,λ_ b=>by simp at b,λ_ b=>by simp at b,Y,Y⟩,λ_ b=>by simp at b⟩
 |true=>
  have R:=a8 rfl;have an:=kA R.1;obtain⟨e0,e4,e5,e6,e7,b9⟩:=an;have eS:k.eY.length<=4:=R.2.1▸b9;simp[*,f83,My,show k.gY.fT.length<=1000000 by omega,show k.gY.fR.length<=1000000 by omega,show k.gY.eY.length<=1000000 by omega];have aX:(mI k.gY).fT.length=k.gY.fT.length/\(mI k.gY).done.length=k.gY.fR.length/\(mI k.gY).eY.length=k.gY.eY.length:=by simp[mI]
  have c6:ET 4 (mI k.gY):=(Ef 4 k.gY);have c7:(mI k.gY).BP:=yV k.gY;generalize mI k.gY=o at*
  refine io k.gY.cells.length J (λs r h=>∃z,Sp9 h o z []/\(z.length=s/\∀x∈z,mH x)/\Lb 2 h 0 (eg 7 0 [k.t])/\Lb 2 h 1 yB/\jg r 1 0/\jg r 2 1/\jg r 3 2/\iS r 4 s) ?_ ?_ J ?_;rintro s r h U bX ⟨z,⟨ver,C,D,u⟩,⟨c1,aA⟩,y,N,A⟩;have E:=u.get;simp at E;have⟨et,h',ap,v⟩:=(u.gr 4 rfl).oy (cx:=cx) (f:=T.int .i64) u.ok tv rfl CS rfl Y (λ_=>rfl) k.gY.cells[s].mP dY;have⟨bu,ec,bA⟩:=u.app 4 rfl v;have⟨P,W⟩:=bA _ rfl;simp only[aS,bR,dc,cS]at bu P W;simp[*,y.get,fN,v.1.je,v.1.cells];exact⟨z++[k.gY.cells[s].mP],⟨_,_,_,W⟩,⟨dY,λx V=>(List.mem_append.1 V).elim (aA x) λq=>List.mem_singleton.1 q▸de.2 _ (aG U)⟩,y.step P,N.step P⟩;rintro r h ⟨z,ee,⟨c1,aA⟩,y,N,A⟩;simp[A,y.get];refine io k.gY.fR.length J (λs r h=>∃F,Sp9 h o z F/\(F.length=s/\∀x∈F,mH x)/\Lb 2 h 0 (eg 7 0 [k.t])/\Lb 2 h 1 yB/\jg r 1 0/\jg r 2 1/\jg r 3 2/\iS r 5 s) ?_ ?_ J ?_;rintro s r h U bX ⟨F,⟨ver,C,D,u⟩,⟨aE,aN⟩,y,N,A⟩;have E:=u.get;simp at E;have⟨et,h',ap,v⟩:=(u.gr 5 rfl).oy (cx:=cx) (f:=T.int .i64) u.ok tv rfl CS rfl Y (λ_=>rfl) 0 dY;have⟨bu,ec,bA⟩:=u.app 5 rfl v;have⟨P,W⟩:=bA _ rfl;simp only[aS,bR,dc,cS]at bu P W;simp[*,y.get,fN,v.1.je,v.1.cells];exact⟨F++[0],⟨_,_,_,W⟩,⟨dY,λx V=>(List.mem_append.1 V).elim (aN x) λq=>List.mem_singleton.1 q▸PF.1⟩,y.step P,N.step P⟩;rintro r h ⟨F,⟨ver,C,D,u⟩,⟨aE,aN⟩,y,N,A⟩;simp[A,y.get];have E:=u.get;simp at E;have Z:=u.gr 4 rfl;have ae:=u.gr 5 rfl;have cb:∀q,fD C=G q\/fD D=G q->3<=q/\q<h.size:=λq L=>by
   have bi:Fp h 2 q:=by
    rcases L with x|x;exact u.MT (f:=(C,some (1,iE z))) Y x;exact u.MT (f:=(D,some (1,iE F))) Y x
   refine⟨?_,u.fp q bi⟩;have eu:q≠0:=λx=>y.nf (x▸bi);have ey:q≠1:=λx=>N.nf (x▸bi);have e8:q≠2:=λx=>by
    subst x;rcases L with x|x
    have⟨_,_,_,_,O,_⟩:=Z.box x;rw[E]at O;simp at O;have⟨_,_,_,_,O,_⟩:=ae.box x;rw[E]at O;simp at O
   omega
  have eR:=H.fV E;have eO:=Z.je;have eD:=Z.cells;have eP:=ae.je;have eE:=ae.cells;refine io k.eY.length J (λs r h'=>∃ver Q ar X br bn,Tt9 k o z F C D h.size s h' ver Q ar X br bn/\jg r 1 0/\jg r 2 1/\jg r 3 2/\iS r 6 s) ?_ ?_ (by have:=R.2.1;have:=b9;omega) ?_;rintro s r h' U bX ⟨ver,Q,ar,X,br,bn,i,A,cL⟩;have⟨m,eU,eV⟩:∃m:Nat,k.eY[s].jT=m/\m<=32:=⟨k.eY[s].jT.toNat,by have:=R.2.2 _ (aG U);have:=this.1;omega,by have:=R.2.2 _ (aG U);have:=this.2.1;omega⟩;have eG:m*8<=70368744177664:=J;have eH:m*24<=70368744177664:=J;have c4:=i.n;have eu:∀q,q<3->(q=h'.size)=False:=λq L=>by simp;omega
  have ey:∀q,q<3->(q=h'.size+1)=False:=λq L=>by simp;omega
  have b8:=i.ok;have eX:=b8.low;have okM:jk 0 ((h'.cons ⟨1,0,0,true,false,List.replicate m (M 0)⟩).cons ⟨1,0,0,true,false,List.replicate m ed⟩):=(b8.cons _).cons _;have av:∀q,((h'.cons ⟨1,0,0,true,false,List.replicate m (M 0)⟩).cons ⟨1,0,0,true,false,List.replicate m ed⟩).get q=if q=h'.size+1 then some ⟨1,0,0,true,false,List.replicate m ed⟩else if q=h'.size then some ⟨1,0,0,true,false,List.replicate m (M 0)⟩else h'.get q:=λq=>by rw[fH,fH];rfl
  have ca:((h'.cons ⟨1,0,0,true,false,List.replicate m (M 0)⟩).cons ⟨1,0,0,true,false,List.replicate m ed⟩).size=h'.size+1+1:=rfl;have bs:Nb h' ((h'.cons ⟨1,0,0,true,false,List.replicate m (M 0)⟩).cons ⟨1,0,0,true,false,List.replicate m ed⟩):=⟨⟨okM.hp,okM.low,J⟩,λq L=>(av q).trans ((aq J).trans (aq J))⟩;have cp:=i.th.g.mono (h':=(h'.cons ⟨1,0,0,true,false,List.replicate m (M 0)⟩).cons ⟨1,0,0,true,false,List.replicate m ed⟩) λq x=>bs.get q (by have⟨_,_,_,_,O,_⟩:=i.th.g.box x;exact H.fV O);have⟨S,K,ap,v⟩:=cp.yv (cx:=cx) okM U2 rfl PX rfl Y (x:= .agg [M 0,.arr h'.size 0 0 m false,.arr (h'.size+1) 0 0 m false,M 0]) rfl (by have:=i.th.l;have:=i.l;have:=R.2.1;simp;omega);simp only[ca]at ap;have eA:=v.2.2.2.sz;rw[ca]at eA;have ao:∀q,fD Q=G q->h.size<=q:=λq x=>(i.th.c q x).1;have gN:∀q,q<h'.size->fD Q≠some q->K.get q=h'.get q:=λq L dk=>(v.2.1 q J dk).trans (bs.get q L);have ax:∀q,q<3->K.get q=h'.get q:=λq L=>gN q J λx=>iV (ao q x);have p2:=(ax 2 J).trans i.b2;simp[*,i.b0,i.b2,v.1.je,v.1.cells,fN];have eb:jk 0 K:=⟨v.2.2.2.hp,v.2.2.2.low,az _⟩;have B:∀q,(fQ K 2 (eg 7 (ver+1) [.agg [sl (o.fT.map fF.t),M o.tx,sl (o.done.map T.bool),sl (o.eY.map fc.t),C,D,S]])).get q=if q=2 then some (eg 7 (ver+1) [.agg [sl (o.fT.map fF.t),M o.tx,sl (o.done.map T.bool),sl (o.eY.map fc.t),C,D,S]])else K.get q:=λq=>fj p2 _ q;have ds:=eb.put 2 (eg 7 (ver+1) [.agg [sl (o.fT.map fF.t),M o.tx,sl (o.done.map T.bool),sl (o.eY.map fc.t),C,D,S]]);have e9:(fQ K 2 (eg 7 (ver+1) [.agg [sl (o.fT.map fF.t),M o.tx,sl (o.done.map T.bool),sl (o.eY.map fc.t),C,D,S]])).size=K.size:=iB ..;generalize fQ K 2 _=aE at*
  have eW:List.replicate m (T.int .i64 0)=iE (List.replicate m 0):=by simp[iE]
  have eh:EG h'.size (h'.size+1+1) ((h'.cons ⟨1,0,0,true,false,List.replicate m (M 0)⟩).cons ⟨1,0,0,true,false,List.replicate m ed⟩) (.arr h'.size 0 0 m false) (.arr (h'.size+1) 0 0 m false) (List.replicate m ed) ⟨0,List.replicate m 0,List.replicate m [],0⟩:=by
   refine⟨.inr ⟨h'.size,0,0,true,_,Y,(av _).trans ((aq J).trans (au rfl)),Y⟩,.inr ⟨h'.size+1,0,0,true,_,Y,(av _).trans (au rfl),Y⟩,Fg Y λj a b a7 a8=>?_,λq x=>?_,λq x=>?_⟩;have c9:=bV (aB a7);have dd:=bV (aB a8);subst c9;subst dd;exact⟨.inr (Gr.nil _ _),Y⟩;simp at x;subst x;exact⟨ay _,J,Y⟩;simp at x;subst x;exact⟨J,J⟩
  have ef:=(i.th.app i.n.2 bs eh v).mono (h':=aE) J λq A _=>(B q).trans (aq J);refine⟨ver+1,S,_,_,_,_,⟨ds,⟨i.n.1,J⟩,(B 0).trans ((aq J).trans ((ax 0 J).trans i.b0)),(B 1).trans ((aq J).trans ((ax 1 J).trans i.b1)),(B 2).trans (au rfl),i.gc.mono λq x=>?_,i.gf.mono λq x=>?_,i.bx,ef,by simp[i.l],λI ht=>?_⟩⟩;have:=i.bx q (.inl x);exact(B q).trans ((aq J).trans (gN q J λp=>iV (ao q p)));have:=i.bx q (.inr x);exact(B q).trans ((aq J).trans (gN q J λp=>iV (ao q p)));rcases List.mem_append.1 ht with q|q;exact i.t I q;simp at q;subst q;exact⟨⟨dY,dY,λb7 hl=>by have:=bV hl;subst this;exact Tn.nil _,λx V=>by rw[bV V];exact PF.1⟩,rfl⟩;rintro r h' ⟨ver,Q,ar,X,br,bn,i,A,cL⟩;have bZ:=i.b1;unfold yB at bZ;have B:∀p q,(fQ h' 1 p).get q=if q=1 then some p else h'.get q:=λp q=>fj bZ p q;have c4:=i.n;have eL:∀p,TI.fz (fQ h' 1 p) C=G (sl (iE z)):=λp=>(i.gc.mono (h':=fQ h' 1 p) λq x=>by have:=i.bx q (.inl x);rw[B,aq J]).fz Y;have eM:∀p,TI.fz (fQ h' 1 p) D=G (sl (iE F)):=λp=>(i.gf.mono (h':=fQ h' 1 p) λq x=>by have:=i.bx q (.inr x);rw[B,aq J]).fz Y;have eN:∀p,TI.fz (fQ h' 1 p) Q=G (sl (X.map gJ.t)):=λp=>by
   have bT:=i.th.mono (h':=fQ h' 1 p) (by rw[iB];exact ay _) λq A _=>by rw[B,aq J]
   refine bT.g.JT (Vq:=λ_=>True) (d:=4) J (Fg (by simp[bT.l]) λj x w dn an=>?_);rw[bw]at an;obtain⟨eo,dm,rfl⟩:=Option.map_eq_some_iff.1 an;obtain⟨eB,eC,eK,rfl,ej⟩:=bT.e j x eo dn dm;exact .inr (.inr ⟨_,_,rfl,ej.fz _ λ_ _ _=>trivial,rfl⟩)
  simp[*,i.b0,i.b2,fN,i.ok.hp];have hl:=i.l;refine⟨⟨o,z,F,X⟩,rfl,⟨⟨by rw[aX.1];omega,by rw[aX.2.1];omega,by rw[aX.2.2];omega,dZ,dZ,dZ⟩,c6,c7,λI ht=>(i.t I ht).1,aA,aN⟩,λI ht=>iV (i.t I ht).2⟩;refine⟨ver,ed,[],[],λ_=>0,λ_=>0,⟨u.ok,⟨J,ay _⟩,y.get,N.get,E,Z,ae,cb,⟨Gr.nil _ _,rfl,Y,Y,Y,Y⟩,rfl,Y⟩,by simp[A]⟩;exact⟨[],ee,⟨rfl,Y⟩,y,N,by simp[A]⟩
  .generalize al:H.cons _ _=bW;have ea:jk 0 bW:=al▸⟨Y,Y,Y⟩;have bN:=rD.start (h:=bW) (w:=2) (szw:=7) (ver:=1) (F:=[(sl (o.fT.map fF.t),none),(M o.tx,none),(sl (o.done.map T.bool),none),(sl (o.eY.map fc.t),none),(ed,some (1,[])),(ed,some (1,[])),(ed,none)]) ea (by rw[<-al];simp) (λf b6=>by
    simp only[cg,cF,cG]at b6;rcases b6 with rfl|rfl|rfl|rfl|rfl|rfl|rfl
    iterate 4 exact .inl ⟨rfl,Y⟩
    iterate 2 exact .inr ⟨rfl,1,rfl,d6⟩
    exact .inl ⟨rfl,rfl⟩)
   exact⟨[],⟨1,_,_,bN.1⟩,⟨rfl,Y⟩,⟨by rw[<-al];simp,λx=>absurd (bN.2 0 x) J⟩,⟨by rw[<-al];simp[yB],λx=>absurd (bN.2 1 x) J⟩,Y⟩
section
attribute [-simp] size_cons
structure IFr where
 (c:lj) (s:jG) (L:List fG)
def Zx(a:IFr)(b:List T)(d:H):Prop:=b=[a.c.t,a.s.t,ed,sl (a.L.map fG.t)]/\jk 0 d/\(∀e∈a.c.eY,e.j3.length<=10000001)/\StI a.s/\evB 0 a.s/\a.L.length<=80/\cR a.c
def Tq(i:IFr)(h:List T)(c:H)(f:T)(d:H):Prop:=∃(a:List gd) (g:jG) (b:T),f= .tuple [b,g.t]/\Gr d b 7 (a.map gd.t)/\(∀e,fD b=G e->c.size<=e)/\Nb c d/\Wm a/\evR a/\a.length<=80
structure Fr9(c:lj)(h0:H)(n:Nat)(h:H)(s:jG)(l:List gd)(v:T)(ver:Nat):Prop where
 nb:Nb h0 h
 z:h0.size+3<=h.size
 b0:h.get h0.size=G (eg 7 0 [c.t])
 b1:h.get (h0.size+1)=G (eg 7 ver [s.t])
 b2:h.get (h0.size+1+1)=G yB
 g:Gr h v 7 (l.map gd.t)
 bx:∀q,fD v=G q->h0.size+3<=q
 st:StI s
 ev:evB n s
 es:Wm l
 er:evR l
 l:l.length<=n
def Fr9.ok{c:lj}{d a:H}{g:Nat}{h:jG}{f:List gd}{j:T}{k:Nat}(b:Fr9 c d g a h f j k):jk 0 a:=⟨b.nb.ok.hp,b.nb.ok.low,az _⟩
def T5:(kW IFr Zx Tq).Ok prog cx 82:=by
 refine jP [(137,Lg.kx)] [] (jz 68723687231 [(4,[(6,11),(6,12)])] func82) 1005 ?_;rintro⟨r,i,C⟩ _ c ⟨rfl,ae,V,X,U,a8,T⟩ n p
 dsimp at V X U a8 T
 simp at p;have O:=ae.hr;simp[f82,p];have ca:=ae.low;generalize o:((H.cons _ _).cons _).cons _=u;have cb:jk 0 u:=o▸((O.cons _).cons _).cons _;have c9:u.size=c.size+1+1+1:=by rw[<-o];rfl
 have bA:Nb c u:=o▸⟨((((Nb.refl O).cons _).cons _).cons _).ok,λr bi=>(((((Nb.refl O).cons _).cons _).cons _).get r bi).trans (iZ c r)⟩;have bZ:u.get c.size=G (eg 7 0 [r.t]):=by rw[<-o];simp
 have b6:u.get (c.size+1)=G (eg 7 0 [i.t]):=by rw[<-o];simp
 have b7:u.get (c.size+1+1)=G yB:=by rw[<-o];simp[yB]
 clear o;refine u5 C.length (λk n d=>∃i x A m,Fr9 r c k d i x A m/\jg n 4 c.size/\jg n 5 (c.size+1)/\jg n 9 (c.size+1+1)/\ka n 2 A/\ka n 3 (sl (C.map fG.t))/\iS n 10 k) ?_ J (az _) ?_;rintro k n d b9 ⟨i,x,A,m,b,s⟩;have Z:=b.g.len (cx:=cx) d aao _ rfl;rw[aL]at Z;simp[s,Z];refine fO (λe=>?_) (λe=>?_);have bs:k<C.length:=by simp at e;exact e.1
 have bu:=b.z;have aE:evB 999000 i:=λP ht=>iV (b.ev P ht);obtain⟨_,⟨q,w,bT,rfl,bn,br,W⟩,R⟩:=Lg.use (r,i,C[k]) ⟨V,b.st,aE,T⟩
 dsimp at R W
 have cp:(c.size=d.size)=False:=by simp<;>omega
 have c1:(c.size+1=d.size)=False:=by simp<;>omega
 have cL:(c.size=d.size+1)=False:=by simp<;>omega
 have c4:(c.size+1=d.size+1)=False:=by simp<;>omega
 simp[s,b.b0,b.b1,bs,R,b.ok.low];generalize D:fQ _ (d.size+1) _=h;have N:jk 0 ((d.cons (eg 7 1 [q.t])).cons (eg 7 0 [.agg [M 0,M 0,M 0,M 0,M 0,ed,ed]])):=(b.ok.cons _).cons _;have L:jk 0 h:=D▸N.put _ _;have b8:h.size=d.size+1+1:=by rw[<-D,iB];rfl
 have E:∀a,h.get a=if a=d.size+1 then some (eg 7 1 [w.t])else if a=d.size then some (eg 7 1 [q.t])else d.get a:=λa=>by
  rw[<-D,rV N.hp (by show _<d.size+1+1;omega)];split;rfl;rw[fH,aq (by assumption),fH]
 clear D N;have Go:∀a,a<d.size->h.get a=d.get a:=λa e=>(E a).trans ((aq J).trans (aq J));have a0:=(Go c.size J).trans b.b0;have a1:=(Go (c.size+1) J).trans b.b1;have a2:=(Go (c.size+1+1) J).trans b.b2;have an:=(E d.size).trans ((aq J).trans (au rfl));have al:=(E (d.size+1)).trans (au rfl);have gA:=b.g.mono (h':=h) λa f=>by have⟨_,_,_,_,aN,_⟩:=b.g.box f;exact Go a (H.fV aN)
 cases bT;simp[s,tz];rw[<-kZ,lA J J];exact⟨k+1,J,J,i,x,A,⟨m,⟨⟨⟨L.hp,L.low,J⟩,λa e=>(Go a J).trans (b.nb.get a e)⟩,J,a0,a1,a2,gA,b.bx,b.st,λP ht=>iV (b.ev P ht),b.es,b.er,iV b.l⟩⟩,rfl,Y⟩;have⟨bW,aA⟩:=W rfl;have bN:jk 0 (fQ h (c.size+1) (eg 7 (m+1) [q.t])):=L.put _ _;have j:∀a,(fQ h (c.size+1) (eg 7 (m+1) [q.t])).get a=if a=c.size+1 then some (eg 7 (m+1) [q.t])else h.get a:=λa=>fj a1 _ a;have c6:(fQ h (c.size+1) (eg 7 (m+1) [q.t])).size=d.size+1+1:=by rw[iB];exact b8
 simp[s,an,a1];generalize fQ h (c.size+1) _=S at*
 have ao:=(j c.size).trans ((aq J).trans a0);have ap:=(j (c.size+1)).trans (au rfl);have ar:=(j (c.size+1+1)).trans ((aq J).trans a2);have av:=(j (d.size+1)).trans ((aq J).trans al);have aX:=gA.mono (h':=S) λa f=>(j a).trans (aq (iV (b.bx a f)));have⟨bX,a7,ax,v⟩:=aX.oy (cx:=cx) bN abW rfl X8 rfl Y (λ_=>rfl) w (uC b.l);simp[s,av,ax,tz];rw[<-kZ,lA J J];have c7:=v.2.2.2.sz;have B:∀a,a<c.size+3->a7.get a=S.get a:=λa e=>v.2.1 a J λf=>iV (b.bx a f);exact⟨k+1,J,J,q,x++[w],bX,⟨m+1,⟨⟨⟨v.2.2.2.hp,v.2.2.2.low,J⟩,λa e=>(B a J).trans ((j a).trans ((aq J).trans ((Go a J).trans (b.nb.get a e))))⟩,J,(B c.size J).trans ao,(B (c.size+1) J).trans ap,(B (c.size+1+1) J).trans ar,v.1,λa f=>by
  rcases v.2.2.1 a f with y|y;exact b.bx a y;omega,bW,aA k b.ev,λF p=>by
  rcases List.mem_append.1 p with y|y;exact b.es F y;simp at y;subst y;exact bn,λF p=>(List.mem_append.1 p).elim (b.er F) λa=>List.mem_singleton.1 a▸λ_=>br,uC b.l⟩⟩,rfl,Y⟩
 have I:=b.b2;unfold yB at I;have bu:=b.z;have j:∀y a,(fQ d (c.size+1+1) y).get a=if a=c.size+1+1 then some y else d.get a:=λy a=>fj I y a;simp[s,b.b1,I,fN,j];have Q:∀a,a≠c.size+1+1->(mV c (fQ d (c.size+1+1) (eg 7 1 [i.t]))).get a=d.get a:=λa e=>by rw[iJ,j,aq e]
 exact⟨x,i,A,rfl,b.g.mono λa f=>Q a (iV (b.bx a f)),λa f=>iV (b.bx a f),⟨⟨((b.ok.put _ _).out c).hp,((b.ok.put _ _).out c).low,by rw[xr,iB];exact b.nb.ok.sz⟩,λa e=>(Q a J).trans (b.nb.get a e)⟩,b.es,b.er,iV b.l⟩;exact⟨i,[],_,_,⟨bA,J,bZ,b6,b7,Gr.nil _ _,Y,X,U,λ_ b=>by simp at b,λ_ b=>by simp at b,ay _⟩,by simp[p]⟩
end
def aaa(a:H)(j:Nat):Prop:=∃i d e f c g h,∃b:List fk,a.get j=G (eg 6 i [.agg [d,e,f,c,g,h]])/\Gr a c 11 (b.map fk.t)/\b.length<=1000000/\jk 0 a
def Jn:mM:=⟨λd a=>∃b c e h,d=[ez b,M c,M e,.str h]/\aaa a b,λ_ a g f=>f=a/\MR g⟩
def T2:Jn.Ok prog cx 244:=by
 refine MY (tb:=⟨pt [],ht []⟩) ml kl (jz 70368744310543 [] func244) false (λ_ _=>1000005) (λP b L=>by obtain⟨f,q,e,x,rfl,_⟩:=L;simp[f244]) ?_;rintro _ b ⟨f,q,e,x,rfl,an,Q,R,S,y,T,U,g,l,i,hl,n⟩ c v;simp at v;have m:=H.fV l;simp[f244];refine io g.length J (λj c d=>Fr b.size (hr b) d/\jk 0 d/\jg c 0 f/\iS c 1 q/\iS c 2 e/\ka c 3 (.str x)/\iS c 9 j) ?_ ?_ J (by simp[v,Fr.refl,n.hr])
 .rintro j c d K F ⟨a,o,u,B,C,D,E⟩;have A:=(a.get f m).trans ((iZ b f).trans l);have h:=i.mono λe k=>by have⟨_,_,_,_,p,_⟩:=i.box k;rw[a.get e (H.fV p),iZ]
  have I:j<(g.map fk.t).length:=iC K;have⟨z,V,ao,W,ap,Z,ae,N,O⟩:=h.CD (te:=KJ) rfl I;have X:=Nat.ne_of_lt (bS m a.size);simp at O;have al:(z=d.size)=False:=by simp;have:=H.fV N;omega
  simp[*,h.len (cx:=cx),o.low];have s:=a.trans (Fr.cons (lo:=b.size) (by have:b.size<=d.size:=a.size;omega) (eg 11 1 [g[j].t]))
  repeat' (refine fO (λw=>?_) (λw=>?_)<;>simp[w,u,B,C,D,E,F,s,o.cons])
  exact ug b _ _ n.hp s (r:= .bool true) rfl ⟨rfl,Y⟩
 rintro c d ⟨a,o,u⟩;have A:=(a.get f m).trans ((iZ b f).trans l);have h:Gr d y 11 (g.map fk.t):=i.mono λe k=>by have⟨_,_,_,_,p,_⟩:=i.box k;rw[a.get e (H.fV p),iZ]
 simp[*,h.len (cx:=cx)];exact ug b _ _ n.hp a (r:= .bool false) rfl ⟨rfl,Y⟩
structure Wk(p:iH)(A:List fk)(n:Nat)(h:H)(w:Nat):Prop where
 ok:jk 0 h
 fp:∀b,Fp h w b->b<h.size
 ex:∃ver t av sv ev,∃S E:List (List Nat),h.get w=G (eg 6 ver [.agg [sl (p.kr.map js.t),sl (p.eY.map iQ.t),M t,av,sv,ev]])/\
  Gr h av 11 (A.map fk.t)/\Gr h sv 1 (S.map T.str)/\Gr h ev 1 (E.map T.str)/\S.length<=n/\E.length<=n/\∀b,fD sv=G b->fD ev≠some b
def Wk.ins{k:iH}{a:List fk}{j:Nat}{b:H}{d:Nat}(c:Wk k a j b d)(i:a.length<=1000000):aaa b d:=by have⟨l,o,e,sv,f,n,m,g,h,_⟩:=c.ex;exact⟨l,_,_,_,e,sv,f,a,g,h,i,c.ok⟩
def wO{c:H}{d:Nat}{a:jO}(f:c.get d=G a){v:T}(g:v∈iy a.im){b:Nat}(e:fD v=G b):Fp c d b:= .inr ⟨a,f,v,g,e⟩
theorem d3{p:Prop}(h:p:=by simp[iy,T.cells]):p:=h
def Wk.same{m:iH}{h:List fk}{l k:Nat}{c d:H}{g:Nat}(j:Wk m h l c g)(B:l<=k)(w:jk 0 d)(f:∀a,Fp c g a->d.get a=c.get a)(v:c.size<=d.size):Wk m h k d g:=by have⟨y,x,p,sv,q,o,n,e,r,s,t,z,A,u⟩:=j.ex;have i:=f g (.inl rfl);refine⟨w,λa b=>by rw[jY i]at b;exact bS (j.fp a b) v,y,x,p,sv,q,o,n,i▸e,?_,?_,?_,J,J,u⟩;exact r.mono λa b=>f a (wO e d3 b);exact s.mono λa b=>f a (wO e d3 b);exact t.mono λa b=>f a (wO e d3 b)
def Wk.lt{f:iH}{c:List fk}{e:Nat}{b:H}{a:Nat}(d:Wk f c e b a):a<b.size:=d.fp a (.inl rfl)
theorem Wk.cons{e:iH}{b:List fk}{d:Nat}{c:H}{w:Nat}(a:Wk e b d c w)(f:jO):Wk e b d (c.cons f) w:=
 a.same (ay _) (a.ok.cons f) (λg h=>by rw[fH,aq (iV (a.fp g h))]) Y 
def Wk.hr{e:iH}{b:List fk}{d:Nat}{a:H}{f:Nat}(c:Wk e b d a f):Wk e b d (TI.hr a) f:=c.same (ay _) c.ok.hr (λg _=>iZ a g) (ay _)
def Wk.out{e:iH}{b:List fk}{d m:Nat}{h a:H}{f:Nat}(c:Wk e b d a f)(i:d<=m):Wk e b m (mV h a) f:=c.same i (c.ok.out h) (λg _=>iJ h a g) (ay _)
def Wk.spawn{a:iH}{m:List fk}{k d h:Nat}{c f:H}{g:Int}{e sv b l:T}{j n:List (List Nat)}{w:List Nat}(u:Wk a m k c d)(o:c.get d=G (eg 6 h [.agg [sl (a.kr.map js.t),sl (a.eY.map iQ.t),M g,e,sv,b]]))
 (gA:Gr c e 11 (m.map fk.t)) (s:Gr c sv 1 (j.map T.str)) (C:Gr c b 1 (n.map T.str)) (F:j.length<=k) (I:n.length<=k) (B:∀r,fD sv=G r->fD b≠some r) (D:EU c sv 1 (j.map T.str++[.str w]) l f):
 f.get d=G (eg 6 h [.agg [sl (a.kr.map js.t),sl (a.eY.map iQ.t),M g,e,sv,b]])/\il c f d/\
  Step d c (fQ f d (eg 6 (h+1) [.agg [sl (a.kr.map js.t),sl (a.eY.map iQ.t),M g,e,l,b]]))/\
  Wk a m (k+1) (fQ f d (eg 6 (h+1) [.agg [sl (a.kr.map js.t),sl (a.eY.map iQ.t),M g,e,l,b]])) d:=by
 have⟨p,E⟩:=Ar (i:=4) u.ok u.fp o rfl d6 s D.xt;have⟨q,z,A,v⟩:=E _ rfl;have⟨a1,a2⟩:=v e 11 _ Y gA (s.ne gA d6) d6;have⟨x,y⟩:=v b 1 _ Y C B d6;exact⟨p.trans o,iw p,q,⟨q.ok.hp,q.ok.low,az _⟩,z,h+1,g,e,l,b,j++[w],n,by rw[fj (p.trans o),au rfl],a1,List.map_append▸A,x,dY,J,y⟩
def Wk.set{a:iH}{o:List fk}{m c k:Nat}{b h:H}{j:Int}{d sv g n:T}{p l:List (List Nat)}{x:List Nat}(f:Wk a o m b c)(q:b.get c=G (eg 6 k [.agg [sl (a.kr.map js.t),sl (a.eY.map iQ.t),M j,d,sv,g]]))
 (gA:Gr b d 11 (o.map fk.t)) (D:Gr b sv 1 (p.map T.str)) (v:Gr b g 1 (l.map T.str)) (I:p.length<=m) (K:l.length<=m) (C:∀e,fD sv=G e->fD g≠some e) (E:EU b g 1 (l.map T.str++[.str x]) n h):
 h.get c=G (eg 6 k [.agg [sl (a.kr.map js.t),sl (a.eY.map iQ.t),M j,d,sv,g]])/\il b h c/\
  Step c b (fQ h c (eg 6 (k+1) [.agg [sl (a.kr.map js.t),sl (a.eY.map iQ.t),M j,d,sv,n]]))/\
  Wk a o (m+1) (fQ h c (eg 6 (k+1) [.agg [sl (a.kr.map js.t),sl (a.eY.map iQ.t),M j,d,sv,n]])) c:=by
 have⟨s,F⟩:=Ar (i:=5) f.ok f.fp q rfl d6 v E.xt;have⟨u,A,B,w⟩:=F _ rfl;have⟨a1,a2⟩:=w d 11 _ Y gA (v.ne gA d6) d6;have⟨y,z⟩:=w sv 1 _ Y D (λe r f=>C e f r) d6;exact⟨s.trans q,iw s,u,⟨u.ok.hp,u.ok.low,az _⟩,A,k+1,j,d,sv,n,p,l++[x],by rw[fj (s.trans q),au rfl],a1,y,List.map_append▸B,J,dY,λe r f=>z e f r⟩
def Wk.acp{a:iH}{h:List fk}{k d g:Nat}{c e:H}{f:Int}{j sv b l:T}{n m:List (List Nat)}{x:fk}(v:Wk a h k c d)(o:c.get d=G (eg 6 g [.agg [sl (a.kr.map js.t),sl (a.eY.map iQ.t),M f,j,sv,b]]))
 (gA:Gr c j 11 (h.map fk.t)) (u:Gr c sv 1 (n.map T.str)) (s:Gr c b 1 (m.map T.str)) (B:n.length<=k) (C:m.length<=k) (D:∀r,fD sv=G r->fD b≠some r) (E:EU c j 11 (h.map fk.t++[x.t]) l e):
 e.get d=G (eg 6 g [.agg [sl (a.kr.map js.t),sl (a.eY.map iQ.t),M f,j,sv,b]])/\il c e d/\
  Step d c (fQ e d (eg 6 (g+1) [.agg [sl (a.kr.map js.t),sl (a.eY.map iQ.t),M f,l,sv,b]]))/\
  Wk a (h++[x]) k (fQ e d (eg 6 (g+1) [.agg [sl (a.kr.map js.t),sl (a.eY.map iQ.t),M f,l,sv,b]])) d:=by
 have⟨p,F⟩:=Ar (i:=3) v.ok v.fp o rfl d6 gA E.xt;have⟨q,z,A,w⟩:=F _ rfl;have⟨a1,a2⟩:=w sv 1 _ Y u (gA.ne u d6) d6;have⟨y,I⟩:=w b 1 _ Y s (gA.ne s d6) d6;exact⟨p.trans o,iw p,q,⟨q.ok.hp,q.ok.low,az _⟩,z,g+1,f,l,sv,b,n,m,by rw[fj (p.trans o),au rfl],List.map_append▸A,a1,y,B,C,D⟩
def Wk.back{b:iH}{p:List fk}{o i k:Nat}{d:H}{j:Int}{m sv f h:T}{r q:List (List Nat)}{I:fk}(g:Wk b (p++[I]) o d i)(c:d.get i=G (eg 6 k [.agg [sl (b.kr.map js.t),sl (b.eY.map iQ.t),M j,m,sv,f]]))
 (E:Gr d sv 1 (r.map T.str)) (D:Gr d f 1 (q.map T.str)) (A:r.length<=o) (B:q.length<=o) (C:∀e,fD sv=G e->fD f≠some e) (gA:Gr d h 11 (p.map fk.t)) (n:fD h=fD m):
   Step i d (fQ d i (eg 6 (k+1) [.agg [sl (b.kr.map js.t),sl (b.eY.map iQ.t),M j,h,sv,f]]))/\
   Wk b p o (fQ d i (eg 6 (k+1) [.agg [sl (b.kr.map js.t),sl (b.eY.map iQ.t),M j,h,sv,f]])) i:=by
 have w:=Step.put g.ok c (eg 6 (k+1) [.agg [sl (b.kr.map js.t),sl (b.eY.map iQ.t),M j,h,sv,f]]) (λv l e a=>by
  simp[iy,T.cells]at l;rcases l with rfl|rfl|rfl|rfl|rfl|rfl
  simp at a;simp at a;simp at a;exact .inl (wO c (v:=m) d3 (n▸a));exact .inl (wO c (v:=v) d3 a);exact .inl (wO c (v:=v) d3 a))
 have u:∀{v:T} {x:Nat} {y:List T},Gr d v x y->x≠6->Gr (fQ d i (eg 6 (k+1) [.agg [sl (b.kr.map js.t),sl (b.eY.map iQ.t),M j,h,sv,f]])) v x y:=λz F=>z.mono λe n=>by
  have⟨_,_,_,_,a,_⟩:=z.box n;rw[fj c,aq (λg=>by subst g;rw[c]at a;simp at a;exact F a.1.symm)]
 refine⟨w,⟨w.ok.hp,w.ok.low,az _⟩,λe a=>?_,k+1,j,h,sv,f,r,q,by rw[fj c,au rfl],u gA d6,u E d6,u D d6,A,B,C⟩;rw[iB];rcases a with rfl|⟨K,s,v,l,a⟩
 exact g.lt;rw[fj c,au rfl]at s;cases s;simp[iy,T.cells]at l;rcases l with rfl|rfl|rfl|rfl|rfl|rfl
 simp at a;simp at a;simp at a;exact g.fp e (wO c (v:=m) d3 (n▸a));exact g.fp e (wO c (v:=v) d3 a);exact g.fp e (wO c (v:=v) d3 a)
def Wk.fa{b:iH}{n:List fk}{m h k:Nat}{d:H}{I:Int}{f sv e:T}{p o:List (List Nat)}(l:Wk b n m d h)(g:d.get h=G (eg 6 k [.agg [sl (b.kr.map js.t),sl (b.eY.map iQ.t),M I,f,sv,e]]))
 (gA:Gr d f 11 (n.map fk.t)) (D:Gr d sv 1 (p.map T.str)) (C:Gr d e 1 (o.map T.str)) (z:p.length<=m) (A:o.length<=m) (B:∀c,fD sv=G c->fD e≠some c) (j:Int):
   Step h d (fQ d h (eg 6 (k+1) [.agg [sl (b.kr.map js.t),sl (b.eY.map iQ.t),M j,f,sv,e]]))/\
   Wk b n m (fQ d h (eg 6 (k+1) [.agg [sl (b.kr.map js.t),sl (b.eY.map iQ.t),M j,f,sv,e]])) h:=by
 have y:∀v∈ [sl (b.kr.map js.t),sl (b.eY.map iQ.t),M j,f,sv,e],∀c,fD v=G c->Fp d h c:=λv i c a=>by
  simp at i;rcases i with rfl|rfl|rfl|rfl|rfl|rfl
  simp at a;simp at a;simp at a;exact wO g (v:=v) d3 a;exact wO g (v:=v) d3 a;exact wO g (v:=v) d3 a
 have s:=Step.put l.ok g (eg 6 (k+1) [.agg [sl (b.kr.map js.t),sl (b.eY.map iQ.t),M j,f,sv,e]]) (λv i c a=> .inl (y v (by simpa[iy,T.cells]using i) c a));have r:∀{v:T} {u:Nat} {w:List T},Gr d v u w->u≠6->Gr (fQ d h (eg 6 (k+1) [.agg [sl (b.kr.map js.t),sl (b.eY.map iQ.t),M j,f,sv,e]])) v u w:=λx F=>x.mono λc E=>by
  have⟨_,_,_,_,a,_⟩:=x.box E;rw[fj g,aq (λl=>by subst l;rw[g]at a;simp at a;exact F a.1.symm)]
 refine⟨s,⟨s.ok.hp,s.ok.low,az _⟩,λc a=>?_,k+1,j,f,sv,e,p,o,by rw[fj g,au rfl],r gA d6,r D d6,r C d6,z,A,B⟩;rw[iB];rcases a with rfl|⟨K,q,v,i,a⟩
 exact l.lt;rw[fj g,au rfl]at q;cases q;exact l.fp c (y v (by simpa[iy,T.cells]using i) c a)
structure acx where
 (p:iH) (A:List fk) (n w:Nat) (s:fk)
def aaJ(a:acx)(c:List T)(d:H):Prop:=c=[ez a.w,a.s.t]/\Wk a.p a.A a.n d a.w/\WF a.p/\a.n<=10000000/\a.s.w<=1000000/\a.A.length<=1000000/\
 (9<=a.s.op/\a.s.op<=11->∃b,b<a.p.kr.length/\uO (a.p.kr.map js.name) a.s.name 0=b)
def Pm(a:acx)(e:List T)(c:H)(d:T)(b:H):Prop:=IU d/\Step a.w c b/\Wk a.p a.A (a.n+1) b a.w
noncomputable abbrev aeD:mM:=kW acx aaJ Pm
def aeW:aeD.Ok prog cx 201:=by
 obtain⟨F,bX⟩:=hlB T2 (λ_ _ _ _ o=>o);refine jP [(246,DB.kx),(247,Gl.kx),(245,aaV.kx),(248,IC.kx),(130,FU),(199,qD),(200,oa)] [(244,Jn)] (jz 14474012017383023515249485065460760621927424225494418519668988771800801378299 [(1,[(7,9)]),(8,[(4,5),(4,8)]),(9,[(4,5),(4,8),(4,9),(4,10),(4,12),(11,12),(4,15),(11,15)]),(28,[(2,7)]),(49,[(4,5),(4,8)])] func201) 5 ?_;rintro⟨d,A,n,i,a⟩ _ h ⟨rfl,k,u,b6,b7,ao,av⟩ eC ap
 dsimp at k u b6 b7 ao av
 simp at ap;obtain⟨bW,ee⟩:=ap;have s:=(k.hr.cons (eg 11 0 [a.t])).cons (eg 2 1 [d.t]);have c4:Step i h (mV h (((hr h).cons (eg 11 0 [a.t])).cons (eg 2 1 [d.t]))):=
  ((Step.cons k.ok.hr k.lt _).trans (Step.cons (k.hr.cons _).ok (k.hr.cons _).lt _)).out
 have c1:Step i (hr h) (((hr h).cons (eg 11 0 [a.t])).cons (eg 2 1 [d.t])):=(Step.cons k.ok.hr k.lt _).trans (Step.cons (k.hr.cons _).ok (k.hr.cons _).lt _);have c7:=s.out (h:=h) (m:=n+1) J;have H:∀o:Int,9<=o/\o<=11->decide (a.op=o)->∃m:Nat,m<d.kr.length/\uO (d.kr.map js.name) a.name 0=m:=λo ef I=>av (by simp at I;omega);have bZ:=λ{f:iq} (ht:f.h 244=G Jn) l b w=>bX ht [ez i,M l,M b,.str w] _ ⟨i,l,b,w,rfl,s.ins ao⟩;have eu:=k.lt;have eo:(i=h.size)=False:=dY;have et:(i=h.size+1)=False:=dY;have bN:(((hr h).cons (eg 11 0 [a.t])).cons (eg 2 1 [d.t])).get i=h.get i:=by simp[*]
 obtain⟨eB,w,a7,sv,bu,S,E,C,gA,an,al,W,X,Z⟩:=s.ex;have bA:=bN.symm.trans C;have ec:=an.qZ Y;have eb:=al.qZ Y;have ds:=λ{f:iq} (h:f.p 130=G FU) x=>Sk h S x J;have dn:=λ{f:iq} (h:f.p 130=G FU) x=>Sk h E x J;obtain⟨Nw,K⟩:=DB.fnI (λc:List Nat×Int×Int=>(d,w,c)) (λ_=>u);have K:=λ{f:iq} (ht:f.p 246=G DB.kx) x l b=>K ht (x,l,b);obtain⟨c9,br⟩:=IC.fnI (λb:Bool=>b) (λ_=>trivial);have bs:∀{f:iq},f.p 245=G aaV.kx->∀l b,rl prog cx f 245 [M l,M b]=G (M (if l=0 then b else l)):=λht l b=>by
  obtain⟨_,rfl,I⟩:=aaV.use (l,b) trivial;exact I ht
 have b8:=a.nN;obtain⟨_,⟨ey,rfl⟩,bn⟩:=Gl.use (d,w,a.e) ⟨u,dZ⟩;have eT:=λ{f:iq} (h:f.p 200=G oa) x=>AD h d.eY x (iV u.2.1);have bi:=λ{f:iq} (h:f.p 199=G qD) x=>Fd h d.kr x (iV u.1);simp[*,f201];have R:(((hr h).cons (eg 11 0 [a.t])).cons (eg 2 1 [d.t])).get h.size=G (eg 11 0 [a.t]):=Y;have U:(((hr h).cons (eg 11 0 [a.t])).cons (eg 2 1 [d.t])).get (h.size+1)=G (eg 2 1 [d.t]):=Y;have aA:(((hr h).cons (eg 11 0 [a.t])).cons (eg 2 1 [d.t])).size=h.size+2:=Y;generalize(((hr h).cons (eg 11 0 [a.t])).cons (eg 2 1 [d.t]))=j at*
 generalize F [T.ptr i 0 0 0,T.int IntKind.i64 7,T.int IntKind.i64 7,T.str []] j=dd;generalize F [T.ptr i 0 0 0,T.int IntKind.i64 8,T.int IntKind.i64 8,T.str []] j=de;generalize F [T.ptr i 0 0 0,T.int IntKind.i64 3,T.int IntKind.i64 3,T.str []] j=di;have L:=(show(j.cons (eg 1 0 [.str a.name])).get i=j.get i from by rw[fH,aq J]).trans C;have D:=s.cons (eg 1 0 [.str a.name]);have aN:=c1.trans (Step.cons s.ok s.lt (eg 1 0 [.str a.name]));have P:∀{v:T} {aX:Nat} {V:List T},v=a7\/v=sv\/v=bu->Gr j v aX V->Gr (j.cons (eg 1 0 [.str a.name])) v aX V:=λb9 g=>g.mono λb ar=>by
  have:b<j.size:=s.fp b (wO C (v:=_) (by rcases b9 with rfl|rfl|rfl<;>simp[iy,T.cells]) ar);rw[fH,aq J]
 have O:=P Y an;have N:=P Y al;have ae:=P Y gA
 repeat' (refine fO (λq=>?_) (λq=>?_)<;>simp[q,bW,C,R,U,bZ,K,br,bs,bn,eT,bi,Pm,c4,c7])
 rcases ax:a.index with _|⟨x,r⟩;rename_i q;simp[ax]at q;obtain⟨_,⟨eA,rfl⟩,ea⟩:=Gl.use (d,w,x) ⟨u,by simp only;rw[ax,fJ.ly]at b8;omega⟩;simp[*]
 iterate 3
  obtain⟨m,eh,ej⟩:∃m,m<d.kr.length/\uO (d.kr.map js.name) a.name 0=m:=by first|exact H 9 J (by assumption)|exact H 10 J (by assumption)|exact H 11 J (by assumption)
  simp[*]
 simp[*];refine fO (λq=>?_) (λq=>?_);simp[*];obtain⟨c6,bT,a8,y⟩:=O.app (cx:=cx) D.ok (x:= .arr (h.size+2) 0 0 1 false) (xs:=[.str a.name]) uH rfl xO uH rfl rfl Y (by rw[iW];simp[aA]) d1 Y dY;obtain⟨cb,ca,B,Q⟩:=D.spawn L ae O N W X Z y;have z:=y.gr;have cp:=(aN.trans B).out;have cL:=Q.out (h:=h) (ay _);simp[*,z.je,z.cells,fN];obtain⟨c6,bT,a8,y⟩:=N.app (cx:=cx) D.ok (x:= .arr (h.size+2) 0 0 1 false) (xs:=[.str a.name]) uH rfl xO uH rfl rfl Y (by rw[iW];simp[aA]) d1 Y dY;obtain⟨cb,ca,B,Q⟩:=D.set L ae O N W X Z y;have z:=y.gr;have cp:=(aN.trans B).out;have cL:=Q.out (h:=h) (ay _);have aE:∀b,h.size<=b->¬Fp (j.cons (eg 1 0 [.str a.name])) i b:=λb ar o=>by rw[jY (L.trans bA.symm)]at o;have:=k.fp b o;omega
 have dk:=(B.get h.size dY (aE _ (ay _))).trans ((show(j.cons (eg 1 0 [.str a.name])).get h.size=j.get h.size by rw[fH,aq J]).trans R);have dm:=(B.get (h.size+1) dY (aE _ J)).trans ((show(j.cons (eg 1 0 [.str a.name])).get (h.size+1)=j.get (h.size+1)by rw[fH,aq J]).trans U);simp[*];refine fO (λq=>?_) (λq=>?_)<;>simp[*,z.je,z.cells,fN]
structure OU where
 (p:iH) (A:List fk) (n w:Nat) (l:List fk)
def Jq(a:OU)(c:List T)(d:H):Prop:=c=[ez a.w,sl (a.l.map fk.t)]/\Wk a.p a.A a.n d a.w/\WF a.p/\a.n+fk.ws a.l<=10000000/\fk.ws a.l<=1000000/\a.A.length<=6/\(∀e∈a.l,MS e)/\
 ∃b,b<a.p.kr.length/\uO (a.p.kr.map js.name) [99] 0=b
def Ct(a:OU)(e:List T)(c:H)(d:T)(b:H):Prop:=LS d/\Step a.w c b/\Wk a.p a.A (a.n+fk.ws a.l) b a.w
def VP(z:Nat)(bN:(kW OU (λf a o=>Jq f a o/\fk.ws f.l<z) Ct).Ok prog cx 155):(kW OU (λf a o=>Jq f a o/\fk.ws f.l<z+1) Ct).Ok prog cx 155:=by
 refine jP [] [(201,aeD),(155,kW OU (λf a o=>Jq f a o/\fk.ws f.l<z) Ct)] (jz 151115745466229840684019 [(10,[(8,12),(9,12)])] func155) 1000005 ?_;rintro⟨F,c,n,j,l⟩ _ o ⟨⟨rfl,aE,O,dn,eb,di,bn,N⟩,dm⟩ A br
 dsimp at aE O dn eb di bn N dm
 simp at br;have hl:=fk.yf (l:=l);simp[f155];refine io l.length J (λz A D=>Step j (hr o) D/\Wk F c (n+fk.ws (l.take z)) D j/\jg A 0 j/\ka A 1 (sl (l.map fk.t))/\iS A 6 z) ?_ ?_ J (by simp[br,fk.jW,aE.hr,Step.refl aE.ok.hr]);rintro f A D ap bs ⟨av,s,i⟩;have bA:=fk.Jg l ap;have eG:=fk.Ba l (f+1);have ar:=bn l[f] (aG ap);simp[i,ap,s.ok.low];generalize l[f]=d at*
 have eF:=d.nN;refine jy aeW Y ⟨F,c,n+fk.ws (l.take f),j,d⟩ ⟨rfl,s.cons _,O,dZ,dZ,dZ,λq=>by simp only;rw[ar.cond q];exact N⟩ ?_;rintro _ p ⟨⟨e,rfl⟩,ax,k⟩
 dsimp at ax k
 have l7:=(Lb.new s.lt s.fp (eg 11 1 [d.t])).step ax;have bZ:=(av.trans (Step.cons s.ok s.lt _)).trans ax;have⟨eN,eM,ca,sv,cp,S,E,I,gA,dd,c9,c4,c6,c7⟩:=k.ex;have bi:∀r,LS r->Ct ⟨F,c,n,j,l⟩ [ez j,sl (l.map fk.t)] o r (mV o p):=λr hr=>⟨hr,bZ.out,k.out dZ⟩;have al:=jr (a:=(c.length:Int)) (b:=1) J J;simp[i,I,gA.len (cx:=cx),al];refine fO (λm=>?_) (λm=>?_);simp[l7.get];exact bi _ Y;have eD:c.length<=5:=by simp at m;omega
 simp;refine fO (λm=>?_) (λm=>?_);simp[l7.get];exact bi _ Y;have eH:(j=p.size)=False:=by simp;have:=k.lt;omega
 have eC:(D.size=p.size)=False:=by simp;have:=l7.lt;omega
 have b7:=k.cons (eg 11 0 [.agg [M 0,M 0,.str [],.str [],ed,M 0,M 0,.str [],ed,ed,ed]]);have ee:=bZ.trans (Step.cons k.ok k.lt (eg 11 0 [.agg [M 0,M 0,.str [],.str [],ed,M 0,M 0,.str [],ed,ed,ed]]));have c1:=(show(p.cons (eg 11 0 [.agg [M 0,M 0,.str [],.str [],ed,M 0,M 0,.str [],ed,ed,ed]])).get j=p.get j by rw[fH,aq (iV k.lt)]).trans I;have K:∀{v:T} {b6:Nat} {a8:List T},v=ca\/v=sv\/v=cp->Gr p v b6 a8->Gr (p.cons (eg 11 0 [.agg [M 0,M 0,.str [],.str [],ed,M 0,M 0,.str [],ed,ed,ed]])) v b6 a8:=λea g=>g.mono λb al=>by
  have:b<p.size:=k.fp b (wO I (v:=_) (by rcases ea with rfl|rfl|rfl<;>simp[iy,T.cells]) al);rw[fH,aq J]
 have⟨Q,eB,a7,aX⟩:=(K Y gA).app (cx:=cx) b7.ok (x:= .arr p.size 0 0 1 false) (xs:=[.agg [M 0,M 0,.str [],.str [],ed,M 0,M 0,.str [],ed,ed,ed]]) CT rfl CR CT rfl rfl Y d4 d1 Y dY;obtain⟨b,ey,eO,eA,rfl,L,eE⟩:=id aX;have a2:=aX.set L c.length d.t;have ds:(List.map fk.t c++[T.agg [M 0,M 0,.str [],.str [],ed,M 0,M 0,.str [],ed,ed,ed]]).set c.length d.t=List.map fk.t c++[d.t]:=Y;rw[ds]at a2;simp[aT,aL,aU,cW]at a2 a7;have⟨P,eL,bW,ec⟩:=b7.acp c1 (K Y gA) (K Y dd) (K Y c9) c4 c6 c7 a2;have bu:b≠j:=λq=>by subst q;rw[fj L,au rfl]at P;simp at P
 have bT:=(l7.step (Step.cons k.ok k.lt _)).step bW;simp[i,I,l7.get,gA.len (cx:=cx),a7,L,fN,P,Ei P _ bu,Ei L _ (bH bu),bT.get];refine jy bN Y ⟨F,c++[d],n+fk.ws (l.take f)+1,j,d.body⟩ ⟨⟨rfl,ec,O,dZ,dZ,dY,ar.bd,N⟩,dZ⟩ ?_;rintro _ de ⟨⟨et,eI,rfl⟩,aA,aN⟩
 dsimp at aA aN
 have ef:=ee.trans bW;have l4:=bT.step aA;have KM:=ef.trans aA;simp;refine fO (λm=>?_) (λm=>?_);simp[i,l4.get];refine jy bN Y ⟨F,c++[d],n+fk.ws (l.take f)+1+fk.ws d.body,j,d.RR⟩ ⟨⟨rfl,aN,O,dZ,dZ,dY,ar.el,N⟩,dZ⟩ ?_;rintro _ ae ⟨⟨eu,eK,rfl⟩,bX,B⟩
 dsimp at bX B
 replace KM:=KM.trans bX;simp[i];have⟨eo,ej,cb,eh,cL,b9,b8,u,C,Z,X,U,V,W⟩:=B.ex;have⟨Q,R,h,an⟩:=C.cut (cx:=cx) (ty:=Pa) (te:=KJ) rfl CR rfl (n:=c.length) Y Y;have h:Gr ae Q 11 (c.map fk.t):=by rw[List.map_append,dp Y]at h;rwa[cd Y]at h
 have⟨H,y⟩:=B.back u Z X U V W h an;have dk:(c++[d]).length=c.length+1:=Y;have w:=my (a:=((c++[d]).length:Int)) (b:=1) J J;have ao:((c++[d]).length:Int)-1=(c.length:Int):=Y;rw[ao]at w;simp[i,u,C.len (cx:=cx)];simp at w;simp[w,R,h.je,h.cells,fN,u];refine fO (λm=>?_) (λm=>?_);simp;exact⟨Y,(KM.trans H).out,y.out dZ⟩;simp[i,bs];exact⟨KM.trans H,bA▸y.same J y.ok (λ_ _=>rfl) (ay _)⟩;have B:=aN;generalize de=ae at*
 simp[i];have⟨eo,ej,cb,eh,cL,b9,b8,u,C,Z,X,U,V,W⟩:=B.ex;have⟨Q,R,h,an⟩:=C.cut (cx:=cx) (ty:=Pa) (te:=KJ) rfl CR rfl (n:=c.length) Y Y;have h:Gr ae Q 11 (c.map fk.t):=by rw[List.map_append,dp Y]at h;rwa[cd Y]at h
 have⟨H,y⟩:=B.back u Z X U V W h an;have dk:(c++[d]).length=c.length+1:=Y;have w:=my (a:=((c++[d]).length:Int)) (b:=1) J J;have ao:((c++[d]).length:Int)-1=(c.length:Int):=Y;rw[ao]at w;simp[i,u,C.len (cx:=cx)];simp at w;simp[w,R,h.je,h.cells,fN,u];refine fO (λm=>?_) (λm=>?_);simp;exact⟨Y,(KM.trans H).out,y.out dZ⟩;simp[i,bs];exact⟨KM.trans H,bA▸y.same J y.ok (λ_ _=>rfl) (ay _)⟩;rintro A D ⟨av,s,i⟩;rw[aI]at s;simp[i];exact⟨Y,av.out,s.out (ay _)⟩
def IF:p8 prog cx 152 (λa:List js=>[sl (a.map js.t)]) (λa=>a.length<=1000000) (λ_=>LS):=by
 refine jX [(199,qD)] (jz 1242795222330225588904675325 [] func152) (λI=>1000005) (λB C c=>jD (λ_ _=>js.inj) (iC c)) ?_;rintro a hl b r;simp at r;simp[f152];refine io a.length J (λx b c=>jk 0 c/\ka b 0 (sl (a.map js.t))/\(∃d,iS b 4 d)/\(∃d,iS b 5 d)/\(∃d,iS b 6 d)/\(∃d,iS b 7 d)/\iS b 8 x) ?_ ?_ J (by simp[r];exact⟨Y,Y,Y⟩)
 .rintro g b c k s ⟨e,i,⟨D,m⟩,⟨E,n⟩,⟨F,o⟩,⟨H,q⟩,j⟩;have l:=λ{z:iq} (c:z.p 199=G qD) A=>Fd c (a.take g) A (by rw[List.length_take];omega);simp[*,e.low,bQ k];rcases Ks ((a.take g).map js.name) a[g].on 0 with h|⟨y,v,h⟩
  .generalize a[g]=u at*
   repeat' (refine fO (λf=>?_) (λf=>?_)<;>simp[f,i,m,n,o,q,j,e.hp,e.cons,l,bQ k,tz,s,h])
  .simp at v h;have w:y<a.length:=J;generalize a[g]=u at*
   repeat' (refine fO (λf=>?_) (λf=>?_)<;>simp[f,i,m,n,o,q,j,e.hp,e.cons,l,bQ k,tz,s,h,w])
 rintro b c ⟨e,i,_,_,_,_,j⟩;simp[*,e.hp]
def ZE(a:iH):Prop:=WF a/\(a.eY.map λb=>fk.ws b.body).sum<=1000000/\(∀b∈a.eY,∀d∈b.body,MS d)/\∃c,c<a.kr.length/\uO (a.kr.map js.name) [99] 0=c
def tU(a:List iQ):Nat:=(a.map λb=>fk.ws b.body).sum
def lN:p8 prog cx 88 (λa:iH=>[a.t]) ZE (λ_=>LS):=by
 have av:=AH (λi:OU=>fk.ws i.l) VP 1000001;refine yQ (tb:=⟨pt [(151,Lh.kx),(152,IF.kx),(153,Er.kx),(154,Pt.kx)],ht [(155,kW OU (λi y b=>Jq i y b/\fk.ws i.l<1000001) Ct)]⟩) ml kl (jz 19342850151455133005856767 [] func88) (λa=>1000005) (λy j b=>by simp at b;exact iH.inj b) Y nl9 ?_;rintro a ⟨m,ap,ae,al⟩ d B;simp at B;obtain⟨_,⟨aN,rfl⟩,L⟩:=Lh.use a m;obtain⟨_,⟨bn,bs,rfl⟩,N⟩:=IF.use a.kr m.1;obtain⟨_,⟨br,bu,rfl⟩,O⟩:=Er.use a m;have hl:=m.2.1;simp[f88,B,L];refine fO (λf=>?_) (λf=>?_);simp;simp[N];refine fO (λf=>?_) (λf=>?_);simp;simp;refine fO (λf=>?_) (λf=>?_);simp;simp[O];refine fO (λf=>?_) (λf=>?_);simp;simp;refine io a.eY.length J (λn d b=>b=hE.cons (eg 2 0 [a.t])/\jg d 1 0/\(∃p,iS d 8 p)/\iS d 9 n) ?_ ?_ J Y;rintro i d b k u ⟨rfl,g,⟨p,r⟩,s⟩;obtain⟨_,⟨c,rfl⟩,P⟩:=Pt.use a.eY[i].body (iV (m.2.2 _ (aG k)).2);simp[g,r,s,k,P,tz,u];rintro d b ⟨rfl,g,⟨p,r⟩,s⟩;simp[g,r,s];refine fO (λf=>?_) (λf=>?_);simp;simp[g];have ao:∀{i:Nat} (F:i<a.eY.length),tU (a.eY.take (i+1))=tU (a.eY.take i)+fk.ws a.eY[i].body:=λ{i} F=>by
  unfold tU;rw[aM F,List.map_append,List.sum_append];simp
 have an:∀i,tU (a.eY.take i)<=1000000:=λi=>by
  have:tU a.eY<=1000000:=ap;have Z:tU a.eY=tU (a.eY.take i)+tU (a.eY.drop i):=by unfold tU;rw[<-List.sum_append,<-List.map_append,cB]
  omega
 refine io a.eY.length J (λn d b=>Wk a [] (tU (a.eY.take n)) b 1/\Lb 1 b 0 (eg 2 0 [a.t])/\jg d 1 0/\jg d 10 1/\iS d 11 n) ?_ ?_ J ?_;rintro i d b k u ⟨q,o,g⟩;have X:=ao k;have a7:=an (i+1);have⟨bi,a8,aE,sv,aX,S,E,A,gA,W,V,Q,R,U⟩:=q.ex;have⟨ax,aA⟩:=q.fa A gA W V Q R U i;have I:=o.step ax;simp[o.get,g,k,A,fN,I.get];refine jy av Y ⟨a,[],tU (a.eY.take i),1,a.eY[i].body⟩ ⟨⟨rfl,aA,m,dZ,dZ,Y,ae _ (aG k),al⟩,dZ⟩ ?_;rintro _ Z ⟨⟨e,p,rfl⟩,K,x⟩
 dsimp at K x
 have ar:=I.step K;simp;refine fO (λf=>?_) (λf=>?_);simp[x.ok.hp];simp[g,u];exact⟨X▸x,ar⟩;rintro d b ⟨q,o,g⟩;simp[o.get,g,q.ok.hp];have D:((hE.cons (eg 2 0 [a.t])).cons (eg 6 0 [.agg [sl (a.kr.map js.t),sl (a.eY.map iQ.t),M 0,ed,ed,ed]])).get 1=G (eg 6 0 [.agg [sl (a.kr.map js.t),sl (a.eY.map iQ.t),M 0,ed,ed,ed]]):=Y;have C:∀j,Fp ((hE.cons (eg 2 0 [a.t])).cons (eg 6 0 [.agg [sl (a.kr.map js.t),sl (a.eY.map iQ.t),M 0,ed,ed,ed]])) 1 j->j=1:=λj h=>by
  rcases h with rfl|⟨z,w,v,H,h⟩;rfl;rw[D]at w;cases w;simp[iy,T.cells]at H;rcases H with rfl|rfl|rfl|rfl|rfl|rfl<;>simp at h
 simp[g];exact⟨⟨⟨Y,Y,Y⟩,λj h=>by rw[C j h];simp,0,0,_,_,_,[],[],D,Gr.nil _ _,Gr.nil _ _,Gr.nil _ _,Y,Y,Y⟩,Y,λh=>absurd (C 0 h) d6⟩
structure ISi where
 (O:List jJ) (v:T) (t n:Int) (l:List fk)
def aeN(a:ISi)(c:List T)(b:H):Prop:=c=[a.v,M a.t,M a.n,sl (a.l.map fk.t)]/\Gr b a.v 3 (a.O.map jJ.t)/\jk 0 b/\a.O.length+fk.ws a.l<=10000000
def aaM(a:ISi)(h:List T)(d:H)(g:T)(e:H):Prop:=∃c f,∃b:List jJ,g= .tuple [c,M f]/\b.length<=a.O.length+fk.ws a.l/\Xt d a.v 3 (b.map jJ.t) c e
abbrev rSi(d:Nat):mM:=kW ISi (λa b c=>aeN a b c/\fk.ws a.l<d) aaM
def Nh(y:Nat)(C:(rSi y).Ok prog cx 157):(rSi (y+1)).Ok prog cx 157:=by
 refine jP [] [(157,rSi y)] (jz 18191 [] func157) 10000005 ?_;rintro⟨s,r,j,N,l⟩ _ o ⟨⟨rfl,z,P,L⟩,K⟩ b A
 dsimp at z L K
 simp at A;have hl:=fk.yf (l:=l);have U:Xt (hr o) r 3 (s.map jJ.t) r (hr o):=Xt.refl (z.mono λF _=>iZ o F) P.hr;simp[f157];refine io l.length J (λa b u=>∃k g,∃c:List jJ,ka b 0 k/\iS b 1 j/\iS b 2 g/\ka b 3 (sl (l.map fk.t))/\iS b 10 a/\c.length<=s.length+fk.ws (l.take a)/\Xt (hr o) r 3 (c.map jJ.t) k u) ?_ ?_ J ⟨r,N,s,by simp[A,U]⟩;rintro a b u x I ⟨k,g,c,v,i,p,e,d,w,h⟩;have an:=fk.Jg l x;have al:=fk.Ba l (a+1);have⟨S,W,H,m⟩:=h.1.oy (cx:=cx) (f:=jJ.t) ⟨h.2.2.2.hp,h.2.2.2.low,az _⟩ abY rfl X1 rfl Y Y (⟨j,g,l[a].DD⟩:jJ) dY;simp[v,i,p,e,d,x];have B:l[a]? =G l[a]:=aF x;generalize l[a]=q at*
 have ae:=q.nN;simp[i,p,e,d,H,tz,B,m.1.qZ,EY];refine jy C Y ⟨c++[⟨j,g,q.DD⟩],S,j,_,q.body⟩ ⟨⟨rfl,m.1,⟨m.2.2.2.hp,m.2.2.2.low,az _⟩,dY⟩,dZ⟩ ?_;rintro _ X ⟨T,O,D,rfl,Q,n⟩;simp[aT]at Q;simp[i,e,d,B,n.1.qZ,EY];refine jy C Y ⟨D,T,j,O,q.RR⟩ ⟨⟨rfl,n.1,⟨n.2.2.2.hp,n.2.2.2.low,az _⟩,dZ⟩,dZ⟩ ?_;rintro _ Z ⟨ap,ao,E,rfl,R,V⟩
 dsimp at R
 simp[i,e,d,I];exact⟨E,J,((h.trans m).trans n).trans V⟩;rintro b u ⟨k,g,c,v,i,p,e,d,w,h⟩;rw[aI]at w;simp[v,p,e,d];exact⟨k,g,c,rfl,w,h.out⟩
def Re:(rSi 10000001).Ok prog cx 157:=AH (λa:ISi=>fk.ws a.l) Nh 10000001
def e04(c:iH):Int:=Classical.epsilon λa=>∃b,lN.kx.R c= .tuple [M a,M b]
def l04(a:iH):Int:=Classical.epsilon λb=>lN.kx.R a= .tuple [M (e04 a),M b]
def c04{b:iq}(ht:b.p 88=G lN.kx)(p:iH)(a:ZE p):rl prog cx b 88 [p.t]=G (.tuple [M (e04 p),M (l04 p)]):=by exact(iL ht lN.1 p a).trans (bE some (Classical.epsilon_spec (Classical.epsilon_spec (p:=λc=>∃d,lN.kx.R p= .tuple [M c,M d]) (lN.2 p a))))
def Rn(b:iH):Prop:=ZE b/\b.kr.length<=100/\(∀a∈b.kr,a.size<=4/\mH a.mP)/\∃a∈b.kr,a.kind=1/\a.name=[113]
def WoS(m:H)(a n f:Nat)(b:List jm):Prop:=∃o g h i j k l,∃(Lk:List jI) (c:List ke) (d Th:List (List Nat)) (e:List jJ),rD m 2 6 o [(g,some (5,b.map jm.t)),(h,some (2,Lk.map jI.t)),(i,some (2,c.map ke.t)),(j,some (1,d.map T.str)),(k,some (1,Th.map T.str)),(l,some (3,e.map jJ.t))]/\
 Lk.length<=a/\c.length<=a/\d.length<=a/\Th.length<=n/\e.length<=f/\∀p∈b,mH p.mP
def WoS.le{e:H}{b c f d:Nat}{a:List jm}(r:WoS e b f d a)(x:b<=c):WoS e c f d a:=by obtain⟨t,j,k,l,m,n,o,Lk,g,h,Th,i,s,u,v,w,p,q⟩:=r;exact⟨t,j,k,l,m,n,o,Lk,g,h,Th,i,s,J,J,J,p,q⟩
def NK(b:List Nat)(a:List jm):Prop:=b∈a.map jm.name
def KF:jO:=(eg 6 0 [.agg [ed,ed,ed,ed,ed,ed]])
def Gf:p8 prog cx 89 (λd:iH=>[d.t]) Rn (λd r=>∃W:fU,r=W.t/\(e04 d=0->okW W)/\∀x∈W.cells,mH x.mP):=by
 refine yQ (tb:=⟨pt [(88,lN.kx),(156,wu)],ht [(157,rSi 10000001)]⟩) ml kl (jz 316913254556860716756833993695 [(21,[(1,8),(3,8)])] func89) (λd=>1000005) (λa b h=>by simp at h;exact iH.inj h) Y nl9 ?_;rintro d ⟨bs,eK,bn,ef⟩ j b8;simp at b8;have c7:=λ{tb:iq} (ht:tb.p 88=G lN.kx)=>c04 ht d bs;have hl:=bs.1.1;simp[f89,b8,c7];refine fO (λbA=>?_) (λbA=>?_);simp at bA;simp[bA];exact⟨⟨[],[],[],[],[],[]⟩,rfl,Y⟩;simp;refine io d.kr.length J (λi j h=>∃z,WoS h i 0 0 z/\Lb 2 h 0 (eg 2 0 [d.t])/\Lb 2 h 1 KF/\z.length<=4*i/\(∀c∈d.kr.take i,c.kind=1->NK c.name z)/\jg j 1 0/\jg j 2 1/\jg j 3 2/\iS j 6 i) ?_ ?_ J ?_;rintro i j h ap an ⟨z,⟨ver,C,O,D,E,H,A,Lk,Q,R,Th,L,e,av,ax,aA,V,X,I⟩,o,v,di,ar,u⟩;have U:=e.get;simp at U;have eM:(0=h.size)=False:=uC e.lt;have eN:(2=h.size)=False:=uC e.lt;have a8:∀c∈d.kr.take (i+1),c∈d.kr.take i\/c=d.kr[i]:=λc bn=>by
  rw[aM ap]at bn;exact(List.mem_append.1 bn).imp id λq=>List.mem_singleton.1 q
 have⟨eP,ee⟩:=bn d.kr[i] (aG ap);simp[u,ap,o.get,e.ok.low];generalize d.kr[i]=c at*
 have B:=e.cons (eg 6 1 [c.t]);have c4:=Step.cons e.ok e.lt (eg 6 1 [c.t]);have l7:=Lb.new e.lt e.fp (eg 6 1 [c.t]);replace o:=o.step c4;replace v:=v.step c4;have a7:(h.cons (eg 6 1 [c.t])).get 2=h.get 2:=by rw[fH,aq (iV e.lt)]
 rw[U]at a7;generalize eO:h.size=bW at*
 generalize h.cons (eg 6 1 [c.t])=eD at*
 by_cases et:c.kind=1\/c.kind=2;have bi:∃N:Nat,max c.size 1=N/\1<=N/\N<=4:=⟨(max c.size 1).toNat,J,J,J⟩;obtain⟨N,bi,dm,eI⟩:=bi;rcases et with hk|hk<;>(
  simp[hk];refine io N J (λk j h=>∃al,WoS h i 0 0 al/\Lb 2 h 0 (eg 2 0 [d.t])/\Lb 2 h 1 KF/\Lb 2 h bW (eg 6 1 [c.t])/\al.length<=4*i+k/\(∀n,NK n z->NK n al)/\(1<=k->NK c.name al)/\jg j 1 0/\jg j 2 1/\jg j 3 2/\iS j 6 i/\jg j 7 bW/\iS j 8 k) ?_ ?_ J ⟨z,⟨ver,C,O,D,E,H,A,Lk,Q,R,Th,L,B,av,ax,aA,V,X,I⟩,o,v,l7,J,λ_ h=>h,λh=>by omega,by simp[u]⟩;rintro k j h eb ds ⟨al,⟨ver,C,O,D,E,H,A,Lk,Q,R,Th,L,e,av,ax,aA,V,X,I⟩,o,v,l7,dk,ao,br,u⟩;have U:=e.get;simp at U;have eL:(k:Int)<max c.size 1:=J;have⟨Z,aE,P,l⟩:=(e.gr 0 rfl).oy (cx:=cx) (f:=jm.t) e.ok ab0 rfl X2 rfl Y Y (⟨c.name,k,c.size,decide (c.kind=2),c.mP⟩:jm) dY;have⟨s,aN,K⟩:=e.app 0 rfl l;have⟨g,m⟩:=K _ rfl;simp at s g m;simp[hk]at P;simp[hk,u,l7.get,U,eb,bi,P,s,fN,l.1.je,l.1.cells,ds];exact⟨_,⟨ver+1,Z,O,D,E,H,A,Lk,Q,R,Th,L,m,av,ax,aA,V,X,λy eo=>(List.mem_append.1 eo).elim (I y) λq=>List.mem_singleton.1 q▸ee⟩,o.step g,v.step g,l7.step g,dY,λn bN=>by have:=ao n bN;unfold NK at*;rw[List.map_append];exact dC _ this,by unfold NK;simp⟩;rintro j h ⟨al,eC,o,v,l7,dk,ao,br,u⟩;simp[hk,u,l7.get,bi,an];exact⟨al,eC.le J,o,v,J,λx ae ec=>by
   rcases a8 x ae with q|rfl;exact ao _ (ar x q ec);exact br dm⟩)
 have eu:¬c.kind=1/\¬c.kind=2:=J;by_cases ca:c.kind=3;have⟨Z,aE,P,l⟩:=(B.gr 1 rfl).oy (cx:=cx) (f:=jI.t) B.ok U5 rfl PY rfl Y Y (⟨c.name,false⟩:jI) dY;have⟨s,aN,K⟩:=B.app 1 rfl l;have⟨g,m⟩:=K _ rfl;simp at s g m;simp[ca,u,l7.get,a7,an,P,s,fN,l.1.je,l.1.cells];exact⟨z,⟨ver+1,C,Z,D,E,H,A,_,Q,R,Th,L,m,dY,J,J,V,X,I⟩,o.step g,v.step g,J,λx ae hk=>ar x ((a8 x ae).resolve_right λS=>by subst S;omega) hk⟩;by_cases cb:c.kind=4;have⟨Z,aE,P,l⟩:=(B.gr 1 rfl).oy (cx:=cx) (f:=jI.t) B.ok U5 rfl PY rfl Y Y (⟨c.name,true⟩:jI) dY;have⟨s,aN,K⟩:=B.app 1 rfl l;have⟨g,m⟩:=K _ rfl;simp at s g m;simp[cb,u,l7.get,a7,an,P,s,fN,l.1.je,l.1.cells];exact⟨z,⟨ver+1,C,Z,D,E,H,A,_,Q,R,Th,L,m,dY,J,J,V,X,I⟩,o.step g,v.step g,J,λx ae hk=>ar x ((a8 x ae).resolve_right λS=>by subst S;omega) hk⟩;by_cases cp:c.kind=5;have dd:=(B.gr 1 rfl).qZ Y;have c9:=λ{tb:iq} (h:tb.p 156=G wu)=>Qf h Lk c.on J;have⟨Z,aE,P,l⟩:=(B.gr 2 rfl).oy (cx:=cx) (f:=ke.t) B.ok abZ rfl X3 rfl Y Y (⟨c.name,uO (Lk.map jI.name) c.on 0⟩:ke) dY;have⟨s,aN,K⟩:=B.app 2 rfl l;have⟨g,m⟩:=K _ rfl;simp at s g m;simp[cp,u,l7.get,a7,an,P,s,fN,l.1.je,l.1.cells,dd,c9];exact⟨z,⟨ver+1,C,O,Z,E,H,A,Lk,_,R,Th,L,m,J,dY,J,V,X,I⟩,o.step g,v.step g,J,λx ae hk=>ar x ((a8 x ae).resolve_right λS=>by subst S;omega) hk⟩;have⟨Z,aE,P,l⟩:=(B.gr 3 rfl).oy (cx:=cx) (f:=T.str) B.ok uH rfl xO rfl Y Y (c.name) dY;have⟨s,aN,K⟩:=B.app 3 rfl l;have⟨g,m⟩:=K _ rfl;simp at s g m;simp[eu,ca,cb,cp,u,l7.get,a7,an,P,s,fN,l.1.je,l.1.cells];exact⟨z,⟨ver+1,C,O,D,Z,H,A,Lk,Q,_,Th,L,m,J,J,dY,V,X,I⟩,o.step g,v.step g,J,λx ae hk=>ar x ((a8 x ae).resolve_right λS=>by subst S;omega) hk⟩;rintro j h ⟨z,⟨ver,C,O,D,E,H,A,Lk,Q,R,Th,L,e,av,ax,aA,V,X,I⟩,o,v,di,ar,u,b6,b7⟩;have eR:=bs.1.2.1;have ej:∀{i:Nat} (b9:i<d.eY.length),tU (d.eY.take (i+1))=tU (d.eY.take i)+fk.ws d.eY[i].body:=λ{i} b9=>by
  unfold tU;rw[aM b9,List.map_append,List.sum_append];simp
 have eh:∀i,tU (d.eY.take i)<=1000000:=λi=>by
  have:tU d.eY<=1000000:=bs.2.1;have b6:tU d.eY=tU (d.eY.take i)+tU (d.eY.drop i):=by unfold tU;rw[<-List.sum_append,<-List.map_append,cB]
  omega
 simp[u,b7,o.get];refine io d.eY.length J (λi j h=>WoS h 1000000 i (tU (d.eY.take i)) z/\Lb 2 h 0 (eg 2 0 [d.t])/\Lb 2 h 1 KF/\jg j 1 0/\jg j 2 1/\jg j 3 2/\iS j 9 i) ?_ ?_ J ⟨⟨ver,C,O,D,E,H,A,Lk,Q,R,Th,L,e,J,J,J,V,by simpa[tU]using X,I⟩,o,v,by simp[u,b6,b7]⟩;rintro i j h ap an ⟨⟨ver,C,O,D,E,H,A,Lk,Q,R,Th,L,e,av,ax,aA,V,X,I⟩,o,v,u⟩;have eE:=ej ap;have eF:=eh (i+1);have U:=e.get;simp at U;have⟨Z,aE,P,l⟩:=(e.gr 4 rfl).oy (cx:=cx) (f:=T.str) e.ok uH rfl xO rfl Y Y (d.eY[i].name) dY;have⟨s,aN,K⟩:=e.app 4 rfl l;have⟨g,m⟩:=K _ rfl;simp at s g m;simp[u,ap,o.get,U,P,s,fN,l.1.je,l.1.cells];have cL:=o.step g;have ey:=v.step g;have bZ:=m.get;simp at bZ;generalize fQ aE 2 _=eG at*
 simp[u,ap,cL.get,bZ,(m.gr 5 rfl).qZ,EY];refine jy Re Y ⟨L,A,i,0,d.eY[i].body⟩ ⟨⟨rfl,m.gr 5 rfl,m.ok,dZ⟩,dZ⟩ ?_;rintro _ eH ⟨eB,eS,c6,rfl,dn,bu⟩
 dsimp at dn bu
 have⟨s,aN,K⟩:=m.app 5 rfl bu;have⟨KM,c1⟩:=K _ rfl;simp at s KM c1;simp[u,s,fN,bu.1.je,bu.1.cells,an];exact⟨⟨ver+1+1,C,O,D,E,Z,eB,Lk,Q,R,_,c6,c1,av,ax,aA,dY,J,I⟩,cL.step KM,ey.step KM⟩;rintro j h ⟨⟨ver,C,O,D,E,H,A,Lk,Q,R,Th,L,e,av,ax,aA,V,X,I⟩,o,v,u⟩;have U:=e.get;simp at U;have aX:=e.uB v (eg 6 1 [.agg [C,O,D,E,H,A]]);have bT:=v.get;unfold KF at bT;have de:(fQ h 1 (eg 6 1 [.agg [C,O,D,E,H,A]])).get 1=_:=(fj bT _ 1).trans (au rfl);simp[u,o.get,U,bT,fN,de,(aX.gr 0 rfl).fz Y,(aX.gr 1 rfl).fz Y,(aX.gr 2 rfl).fz Y,(aX.gr 3 rfl).fz Y,(aX.gr 4 rfl).fz Y,(aX.gr 5 rfl).fz Y];refine⟨⟨_,rfl,λ_=>⟨dZ,dZ,dZ,dZ,dZ,?_⟩,I⟩,e.ok.hp⟩;obtain⟨c,ea,hk,br⟩:=ef;have ao:=ar c (aI▸ea) hk;unfold NK at ao;rw[br]at ao;rcases Ks (z.map jm.name) [113] 0 with S|⟨n,bN,S⟩;have:=Kt (z.map jm.name) [113] 0;rw[S,eq_true ao]at this;simp at this;exact⟨n,iC bN,by rw[S];simp⟩;have⟨eA,bX⟩:=rD.start (h:=((hE.cons (eg 2 0 [d.t])).cons KF).cons KF) (w:=2) (szw:=6) (ver:=0) (F:=[(ed,some (5,[])),(ed,some (2,[])),(ed,some (2,[])),(ed,some (1,[])),(ed,some (1,[])),(ed,some (3,[]))]) ⟨Y,Y,Y⟩ (by simp[KF]) Y;exact⟨[],⟨0,_,_,_,_,_,_,[],[],[],[],[],eA,Y,Y,Y,Y,Y,Y⟩,⟨Y,λq=>absurd (bX 0 q) d6⟩,⟨by simp[KF],λq=>absurd (bX 1 q) d6⟩,Y⟩
def eT(a:Int×T):T:= .agg [.int .i64 a.1,a.2]
def agc{e:H}{c:Nat->Prop}{g:Int}{b d f:Nat}{a:List iK}(h:c b)(j:e.kd (.arr b d 0 f false)=some (a.map iK.t)):FT e c 4 (eT (g,.arr b d 0 f false)) (iR.t ⟨g,a⟩):=by
 have i:∀a:List iK,jw (FT e c 2) (a.map iK.t) (a.map iK.t):=λa=>by
  induction a with
  |nil=>exact .nil
  |cons l a k=>exact .cons (.inr (.inr ⟨_,_,rfl,.cons (jh ..) (.cons (jh ..) (.cons (jh ..) (.cons (jh ..) (.cons (jh ..) (.cons (jh ..) .nil))))),rfl⟩)) k
 exact .inr (.inr ⟨_,_,rfl,.cons (jh ..) (.cons (.inr (.inl ⟨b,d,0,f,false,_,_,rfl,h,j,i a,rfl⟩)) .nil),rfl⟩)
def PcS(W:fU)(a:H)(h:Nat):Prop:=∃i f,∃b:List (Int×T),∃d:List iR,rD a 2 7 i [(sl (W.cells.map jm.t),none),(sl (W.fT.map jI.t),none),(sl (W.jl.map ke.t),none),(sl (W.fR.map T.str),none),(sl (W.eY.map T.str),none),(sl (W.jM.map jJ.t),none),(f,some (2,b.map eT))]/\
 jw (FT a (λc=>2<c/\c<a.size/\¬Fp a 2 c) 4) (b.map eT) (d.map iR.t)/\b.length=h/\∀e∈d,e.j3.length<=10000001/\∀g∈e.j3,cI g
def UR{h:H}{w:Nat}{x:jO}(f:h.get w=some x)(g:∀b∈iy x.im,fD b=none)(c:Nat)(e:Fp h w c):c=w:=by rcases e with a|⟨j,d,b,i,a⟩;exact a;rw[f]at d;cases d;rw[g b i]at a;simp at a
structure Kp(h h':H):Prop where
 sz:h.size<h'.size
 get:∀b,b<h.size->h'.get b=h.get b
 fp:∀b,Fp h' h.size b->h.size<=b
def Kp.step{c f g:H}(b:Kp c f)(e:Step c.size f g):Kp c g:=
 ⟨bS b.sz e.ok.sz,λa d=>(e.get a (iV b.sz) λh=>iV (b.fp a h)).trans (b.get a d),λa d=>(e.fp a d).elim (b.fp a) λh=>iV b.sz⟩
def Kp.new{h:H}(g:jk 0 h)(W:fU)(a:List (List Nat))(c:Int):Kp h (h.cons ⟨10,0,0,true,false,[.agg (wU W a (.fg [] false) 0 c)]⟩)/\Gn W a 0 (h.cons ⟨10,0,0,true,false,[.agg (wU W a (.fg [] false) 0 c)]⟩) h.size:=by
 have f:=UR (h:=h.cons ⟨10,0,0,true,false,[.agg (wU W a (.fg [] false) 0 c)]⟩) (w:=h.size) (x:=⟨10,0,0,true,false,[.agg (wU W a (.fg [] false) 0 c)]⟩) (by rw[fH,au rfl]) (λi e=>by
  simp[iy,wU,T.cells]at e;rcases e with rfl|rfl|rfl|rfl|rfl|rfl|rfl|rfl|rfl|rfl<;>simp)
 exact⟨⟨Y,λb d=>by rw[fH,aq J],λb d=>f b d▸ay _⟩,g.cons _,λb d=>by rw[f b d];simp,0,.fg [] false,0,c,[],by rw[fH,au rfl],Gr.nil _ _,rfl,Y⟩
structure Sn(h h':H):Prop where
 ok:jk 0 h'
 size:h'.size=h.size+1
 get:∀c,c<h.size->h'.get c=h.get c
def Sn.new{h:H}(c:jk 0 h)(a:jO):Sn h (h.cons a):=⟨c.cons a,Y,λd e=>by rw[fH,aq J]⟩
theorem Sn.put{a b:H}(c:Sn a b){x:jO}(f:b.get a.size=some x)(y:jO):Sn a (fQ b a.size y):=⟨c.ok.put _ y,by rw[iB];exact c.size,λd e=>by rw[fj f,aq J];exact c.get d e⟩
def Mn:jO:=⟨7,0,0,true,false,[.agg [.fg [] false,.fg [] false,.fg [] false,.fg [] false,.fg [] false,.fg [] false,.fg [] false]]⟩
def Es:p8 prog cx 36 (λc:iH=>[c.t]) (λc=>Rn c/\c.eY.length<=100) (λc m=>∃(b:lj) (e l:Int),m= .tuple [b.t,.int .i64 e,.int .i64 l]/\(∀u∈b.eY,u.j3.length<=10000001)/\cR b):=by
 refine yQ (tb:=⟨pt [(88,lN.kx),(89,Gf.kx),(92,qK)],ht [(90,HR 10000001),(91,kW HF xZ uV)]⟩) ml kl (jz 19808249554385699031857790975 [] func36) (λc=>10000005) (λP j h=>by simp at h;exact iH.inj h) Y nl9 ?_;rintro c ⟨bA,eW⟩ a bN;simp at bN;have aN:=bA.1;have c4:=λ{tb:iq} (ht:tb.p 88=some lN.kx)=>c04 ht c aN;obtain⟨_,⟨W,rfl,aA,dn⟩,c6⟩:=Gf.use c bA;simp[f36,bN,c4];refine fO (λU=>?_) (λU=>?_);simp at U;simp[U];exact⟨⟨⟨[],[],[],[],[],[]⟩,[]⟩,rfl,Y,by simp[cR]⟩;have aA:=aA (iC U);simp[c6];refine io c.eY.length J (λi a h=>PcS W h i/\Lb 2 h 0 ⟨2,0,0,true,false,[c.t]⟩/\Lb 2 h 1 Mn/\jg a 1 0/\jg a 2 1/\jg a 7 2/\(∃an:Int,iS a 8 an)/\iS a 9 i) ?_ ?_ J ?_
 .rintro i a h Z ds ⟨ca,O,N,r,av,R,⟨an,bu⟩,S⟩;have e8:=ca;obtain⟨ver,ao,E,X,g,P,hE,V⟩:=ca;have L:=g.get;simp at L;have eo:(0=h.size)=False:=uC g.lt;have eR:(2=h.size)=False:=uC g.lt;simp[r,R,bu,S,Z,O.get,L,eo];have ht:=aN.1.2.2 c.eY[i] (aG Z);have ej:=aN.2.2.1 c.eY[i] (aG Z);have eX:c.eY[i]? =some c.eY[i]:=aF Z;generalize c.eY[i]=cL at*
  have⟨s,et⟩:=Kp.new g.ok W cL.locals an;refine Qd (Q9 10000001) Y et aA ht.1 ej J J λeH b8 eC e4 e5 b6=>?_;replace s:=s.step eC;have⟨ff,e7,fb,aX,eF,gA,dd,dm⟩:=b6.ex;have⟨KM,eu⟩:=b6.LC gA dd dm (-1) aX;replace s:=s.step KM;simp[wU]at gA;simp[gA,fN];refine rh (i:=⟨28,0,0,0,0,0⟩) Y eu J λA eD b7=>?_;replace s:=s.step eD;have⟨fs,fe,e6,c1,j,Q,fv,eG,eE,gC,ar,eL,ee,bZ,⟨eI,dk⟩,ef⟩:=b7.opn J;have eS:(A.size=h.size)=False:=uC s.sz;have bT:j<A.size:=H.fV ar;have eM:=s.fp j ee;have b9:=b7.ok;simp[wU]at gC;have eP:b8+1<=1000001:=J;generalize b8+1=I at*
  generalize bW:h.size=K at*
  simp[gC,b9.low];refine io I J (λk a v=>∃(m:Int) (z:Nat),Sn A v/\v.get A.size=some ⟨2,0,z,true,false,[.agg [.int .i64 m,.arr j Q 0 I false]]⟩/\jg a 1 0/\jg a 2 1/\jg a 7 2/\iS a 8 aX/\iS a 9 i/\jg a 10 K/\jg a 11 A.size/\iS a 12 k) ?_ ?_ J ?_
  .rintro k a v bX ea ⟨m,z,o,x,r⟩;have ap:=(o.get K (bW▸s.sz)).trans gC;have de:=(o.get j bT).trans ar;have⟨u,D,_⟩:=ef k bX;simp[r,ap,de,bX,D,yo];have eU:(jQ u).length<=3:=by unfold jQ;(repeat' split)<;>simp
   refine io (jQ u).length J (λn a v=>∃(m:Int) (z:Nat),Sn A v/\v.get A.size=some ⟨2,0,z,true,false,[.agg [.int .i64 m,.arr j Q 0 I false]]⟩/\jg a 1 0/\jg a 2 1/\jg a 7 2/\iS a 8 aX/\iS a 9 i/\jg a 10 K/\jg a 11 A.size/\iS a 12 k/\ka a 13 (sl ((jQ u).map (T.int .i64)))/\iS a 14 n) ?_ ?_ J ⟨m,z,o,x,by simp[r]⟩;rintro n a v aE eb ⟨m,z,o,x,r⟩;simp[r,aE,x,tz,fN];exact⟨o.put x _,⟨_,_,(fj x _ _).trans (au rfl)⟩,by simpa[tz]using eb⟩;rintro a v ⟨m,z,o,x,r⟩;simp[r,ea];exact⟨o,m,z,x⟩
  rintro a v ⟨m,z,o,x,r⟩;have C:∀b,b<h.size->v.get b=h.get b:=λb y=>(o.get b (iV s.sz)).trans (s.get b y);have a7:=g.step o.ok λb y=>C b (g.fp b y);have bs:=a7.get;simp at bs;have⟨a8,ax,bn,bi⟩:=(a7.gr 6 rfl).oy (cx:=cx) (f:=eT) o.ok abP rfl X4 rfl Y (λu=>rfl) (m,.arr j Q 0 I false) dY;have⟨cb,e9,ey⟩:=a7.app 6 rfl bi;have⟨B,cp⟩:=ey _ rfl;simp at cb B cp;simp[eT]at bn;have ap:=(o.get K (bW▸s.sz)).trans gC;simp[ap,r,x,bs,bn,cb,fN,bi.1.je,bi.1.cells,ds];have eV:=o.size;have eN:=s.sz;have ae:=jY (C 2 g.lt);have ec:∀b,b<K->¬Fp h 2 b->(fQ ax 2 _).get b=h.get b:=λb y aE=>(B.get b J (by rw[ae];exact aE)).trans (C b J);have eO:=g.lt;refine⟨⟨_,a8,E++[(m,.arr j Q 0 I false)],X++[⟨m,c1⟩],iC cp,?_,dY,λu D=>?_⟩,(O.mO (C 2 g.lt) (C 0 O.lt)).step B,(N.mO (C 2 g.lt) (C 1 N.lt)).step B⟩;rw[List.map_append,List.map_append];have e0:v.size<=(fQ ax 2 (⟨7,0,ver+1,true,false,[.agg [sl (W.cells.map jm.t),sl (W.fT.map jI.t),sl (W.jl.map ke.t),sl (W.fR.map T.str),sl (W.eY.map T.str),sl (W.jM.map jJ.t),a8]]⟩:jO)).size:=B.ok.sz;refine jw.append (P.ft λb y=>⟨⟨y.1,J,λq=>?_⟩,ec b y.2.1 y.2.2⟩) (.cons (agc ⟨J,J,λq=>?_⟩ ?_) .nil);rcases B.fp b q with q|q;rw[ae]at q;exact y.2.2 q;omega;rcases B.fp j q with q|q;rw[ae]at q;have:=g.fp j q;omega;omega;have di:(fQ ax 2 (⟨7,0,ver+1,true,false,[.agg [sl (W.cells.map jm.t),sl (W.fT.map jI.t),sl (W.jl.map ke.t),sl (W.fR.map T.str),sl (W.eY.map T.str),sl (W.jM.map jJ.t),a8]]⟩:jO)).get j=_:=((B.get j J λq=>by rw[ae]at q;have:=g.fp j q;omega).trans (o.get j bT)).trans ar;have eh:I<=eE.length:=by
   have:=bE List.length bZ;rw[List.length_take,aL]at this;omega
  rw[iW,di];simp[eh,bZ];rcases List.mem_append.1 D with q|q;exact V u q;rw[List.mem_singleton.1 q];exact⟨dZ,dk⟩;exact⟨cL.locals.length,1,Sn.new b9 _,Y,by simp[r,av,R,S]⟩
 rintro a h ⟨⟨ver,ao,E,X,g,P,hE,V⟩,O,N,r,av,R,⟨an,bu⟩,S⟩;have L:=g.get;simp at L;have al:=N.get;unfold Mn at al;have eB:=g.uB N ⟨7,0,1,true,false,[.agg [sl (W.cells.map jm.t),sl (W.fT.map jI.t),sl (W.jl.map ke.t),sl (W.fR.map T.str),sl (W.eY.map T.str),sl (W.jM.map jJ.t),ao]]⟩;have c9:(fQ h 1 ⟨7,0,1,true,false,[.agg [sl (W.cells.map jm.t),sl (W.fT.map jI.t),sl (W.jl.map ke.t),sl (W.fR.map T.str),sl (W.eY.map T.str),sl (W.jM.map jJ.t),ao]]⟩).get 1=_:=(fj al _ 1).trans (au rfl);have c7:=(eB.gr 6 rfl).JT (d:=4) J (P.ft (V':=λ_=>True) λj eK=>⟨trivial,by rw[fj al,aq J]⟩);simp[r,av,R,S,O.get,L,al,fN,c9,c7];exact⟨⟨⟨W,X⟩,rfl,λu D=>(V u D).1,λu D=>(V u D).2,dn⟩,g.ok.hp⟩;have⟨eA,br⟩:=rD.start (h:=((hE.cons ⟨2,0,0,true,false,[c.t]⟩).cons Mn).cons ⟨7,0,1,true,false,[.agg [sl (W.cells.map jm.t),sl (W.fT.map jI.t),sl (W.jl.map ke.t),sl (W.fR.map T.str),sl (W.eY.map T.str),sl (W.jM.map jJ.t),.fg [] false]]⟩) (w:=2) (szw:=7) (ver:=1) (F:=[(sl (W.cells.map jm.t),none),(sl (W.fT.map jI.t),none),(sl (W.jl.map ke.t),none),(sl (W.fR.map T.str),none),(sl (W.eY.map T.str),none),(sl (W.jM.map jJ.t),none),(.fg [] false,some (2,[]))]) ⟨Y,Y,Y⟩ (by simp[Mn]) Y;exact⟨⟨_,_,[],[],eA,.nil,rfl,Y⟩,⟨Y,λq=>absurd (br 0 q) d6⟩,⟨by simp[Mn],λq=>absurd (br 1 q) d6⟩,Y⟩
