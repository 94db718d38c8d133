/- Texts W09a to W09d. -/
import Derived.Test.YtmaeadedikngoaaGreatDoorA29
set_option linter.all false
set_option maxRecDepth 100000
set_option maxHeartbeats 8000000
namespace Go.Proofs.YtmaeadedikngoaaGreatDoor
noncomputable section
open Go Go.TI
attribute [-simp] List.map_take List.map_drop List.map_append fH fh ej Bool.not_or Bool.not_and
attribute [simp] fG fj
attribute [-simp] size_cons
def wG:List Int:=[3,3,4,4,5,6,7,8,9,10,11,12,13,14,15,16,18,19,20,21,22,23,2]
def mF(a:Int):Int:=if a<6\/28<a then 0 else wG.getD (a-6).toNat 0
def wv:iq:=⟨Int,λa=>[dG a],λa=>True,λa=> dG (mF a),λa c b=>by simp at b;rw[b]⟩
def OW:wv.Ok Tryz.prog cx 200:=by
 refine iC (tb:=⟨pt [],ht []⟩) fc fa (je 1037 [] Tryz.func200) (λl=>1) (by simp[wv]) (by simp[wv,Tryz.f200]) ?_;rintro(b:Int) m n f;simp[wv]at f|-;by_cases h:b<6\/28<b
 ·have d:mF b=0:=by unfold mF;rw[aq h]
  rcases h with h|h<;>simp[Tryz.f200,f,h,d]
 ·obtain⟨a,i⟩:∃a:Nat,b=(a:Int)+6:=⟨(b-6).toNat,dB⟩;subst i;have g:a<23:=dB;obtain⟨e,d⟩:∃e,wG[a]? =some e:=⟨_,aB (show a<wG.length from g)⟩;have c:(wG.map (T.int .i64))[a]? =some (dG e):=by rw[aQ,d];rfl
  have j:mF ((a:Int)+6)=e:=by
   unfold mF;rw[ao h,show((a:Int)+6-6).toNat=a by omega];simp[List.getD,d]
  have k:binop .sub (dG ((a:Int)+6)) (dG 6)=some (dG (a:Int)):=by rw[kN dB dB];congr 2;omega
  simp only[wG,aT,cB]at c;obtain⟨_,c⟩:=List.getElem?_eq_some_iff.1 c;simp[Tryz.f200,f,show¬(a:Int)+6<6 by omega,show¬(28:Int)<(a:Int)+6 by omega,k,g,c,j]
def Tc{b:fN}(ht:b.p 200=some wv)(a:Int):rl Tryz.prog cx b 200 [dG a]=some (dG (mF a)):=iv ht OW a trivial
structure Xu(c:jO)(s:iL):Prop where
 v:Qb c
 f:mK c.fq s.fO=true
 cl:s.cells.length=c.fq.cells.length
 fu:s.ei.length=c.fq.ei.length
 th:s.dM.length=c.dM.length
 t:∀(i:Nat) (t:ez) (x:fZ),s.dM[i]? =some t->c.dM[i]? =some x->0<=t.pC/\t.pC<x.jk.length/\t.iS.length=x.iS/\t.kc.length=x.iS
def Ig{a:jO}(b:Qb a):a.fq.gW.length<=2/\a.dM.length<=4:=by
 have:=b.1;unfold j4 sH at this;simp only[ay,aJ]at this;have c:=b.2.1;omega
def Hr:nK Tryz.prog cx 199 (λh:jO×iL=>[h.1.t,h.2.t]) (λh=>∀a∈h.1.dM,a.jk.length<=10000001) (λh=>MJ (Xu h.1 h.2)):=by
 refine ju (tb:=⟨pt [(74,wA.jx),(111,qP)],ht []⟩) fc fa (je 158456325028530997355645763711 [] Tryz.func199) (λ_=>100) (λh b g=>by simp at g;exact aP (jO.inj g.1) (iL.inj g.2)) dC (by simp[Tryz.f199]) ?_;rintro⟨f,l⟩ x m F;replace x:∀a∈f.dM,a.jk.length<=10000001:=x;simp at F;obtain⟨D,E⟩:=F;obtain⟨_,⟨b,rfl,M⟩,C⟩:=wA.use f x;cases b with
 |false=>simp[Tryz.f199,D,E,C]
 |true=>
  have G:=M rfl;obtain⟨W,X⟩:=Ig G;simp[Tryz.f199,D,E,C,uT,show f.fq.gW.length<=1099511627776 by omega];refine em (λB=> ?_) (λB=> ?_)
  ·simp
  simp only[cr,cK,aJ]at B;obtain⟨⟨⟨Q,T⟩,U⟩,V⟩:=B;simp;generalize q:(hE.cons _).cons _=w;have P:ij 2 w:=by rw[<-q];exact⟨dC,dC,dC⟩
  have j:w.get 0=some (dI 7 0 [f.t]):=by rw[<-q];simp
  have n:w.get 1=some (dI 7 0 [l.t]):=by rw[<-q];simp
  clear q;refine fI f.dM.length dB (λe m g=>ij 2 g/\g.get 0=some (dI 7 0 [f.t])/\g.get 1=some (dI 7 0 [l.t])/\(∀(d:Nat) (c:ez) (a:fZ),d<e->l.dM[d]? =some c->f.dM[d]? =some a->0<=c.pC/\c.pC<a.jk.length/\c.iS.length=a.iS/\c.kc.length=a.iS)/\dJ m 2 (.ptr 0 0 0 0)/\dJ m 3 (.ptr 1 0 0 0)/\dJ m 5 (dG e)) ?_ ?_ dB ?_
  ·rintro e m g z L ⟨i,j,n,A,o,v,p⟩;have I:=i.ne (b:=0) dB;have O:=i.ne (b:=1) dB;have y:e<l.dM.length:=dB;obtain⟨c,ht⟩:∃c,l.dM[e]? =some c:=⟨_,aB y⟩;obtain⟨a,k⟩:∃a,f.dM[e]? =some a:=⟨_,aB z⟩;have J:l.dM[e]=c:=by rw[aB y]at ht;simpa using ht
   have K:f.dM[e]=a:=by rw[aB z]at k;simpa using k
   simp[j,n,o,v,p,z,y,I,i.low,J,K];refine em (λu=> ?_) (λu=> ?_)
   ·simp[i.hp]
   simp only[cr,cK,aJ,bU]at u;simp[o,v,p,L];refine⟨i.cons _,by simpa[I]using j,by simpa[O]using n,λd R S N r s=> ?_⟩;rcases aF d e with H|H
   ·exact A d R S H r s
   ·have:d=e:=dB;subst this;rw[ht]at r;rw[k]at s;simp only[ar]at r s;subst r s;exact⟨dB,dB,u.1.2,u.2⟩
  ·rintro m g ⟨i,j,n,A,o,v,p⟩;simp[j,o,p,i.hp];exact⟨G,Q,dB,dB,dB,λd c a ht k=>A d c a (List.getElem?_eq_some_iff.1 k).1 ht k⟩
  ·exact⟨P,j,n,λd c a N=>by omega,dC⟩
def Hq:nK Tryz.prog cx 232 (λa:Int×Int=>[dG a.1,dG a.2]) (λa=>True) (λ_=>EL):=by
 refine ju (tb:=⟨pt [],ht []⟩) fc fa (je 4275 [] Tryz.func232) (λ_=>10) (λa i b=>by simp at b;exact aP b.1 b.2) dC (by simp[Tryz.f232]) ?_;rintro⟨k,f⟩ _ j d;simp at d;obtain⟨g,c⟩:=d;by_cases e:f<1
 ·simp[Tryz.f232,c,e]
 ·simp[Tryz.f232,g,c,e,Dt (show¬f=0 by omega)];refine em (λh=> ?_) (λh=> ?_)<;>simp[c,oh]
def Xo(a:fU)(b:ez):Prop:=(a.op=7\/a.op=9)->jt a.c b.iS.length=true
def Ca:nK Tryz.prog cx 201 (λb:fU×ez=>[b.1.t,b.2.t]) (λb=>Xo b.1 b.2) (λ_=>EL):=by
 refine ju (tb:=⟨pt [(232,Hq.jx)],ht []⟩) fc fa (je 1099578740959 [(6,[(1,10)]),(8,[(1,10)])] Tryz.func201) (λ_=>10) (λb v i=>by simp at i;exact aP (fU.inj i.1) (ez.inj i.2)) dC (by simp[Tryz.f201]) ?_;rintro⟨a,u⟩ d w o;replace d:Xo a u:=d;simp at o;obtain⟨j,k⟩:=o;obtain⟨r,f⟩:=Hq.fnI (γ:=Int×Int) id (λ_=>trivial);have f:∀{tb:fN},tb.p 232=some (wR Tryz.prog cx 232 (λb:Int×Int=>[dG b.1,dG b.2]) (λb=>True) (λ_=>EL))->∀h g,rl Tryz.prog cx tb 232 [dG h,dG g]=some (dG (r (h,g))):=λht h g=>f ht (h,g);cases c:decide (a.op=7)with
 |true=>
  obtain⟨s,hr,_⟩:=iK (d (.inl (by simpa using c)));have n:=eQ (fw.1 (d (.inl (by simpa using c)))).1;have m:decide (a.op=6)=false:=by
   have:a.op=7:=by simpa using c
   exact aR dB
  have l:decide (a.op=27)=false:=by
   have:a.op=7:=by simpa using c
   exact aR dB
  simp[Tryz.f201,j,k,c,m,l,hr,n,f,oh]
 |false=>
  cases e:decide (a.op=9)with
  |true=>
   obtain⟨s,hr,_⟩:=iK (d (.inr (by simpa using e)));have n:=eQ (fw.1 (d (.inr (by simpa using e)))).1;have m:decide (a.op=6)=false:=by
    have:a.op=9:=by simpa using e
    exact aR dB
   have l:decide (a.op=27)=false:=by
    have:a.op=9:=by simpa using e
    exact aR dB
   simp[Tryz.f201,j,k,c,e,m,l,hr,n,f,oh]
  |false=>
   simp[Tryz.f201,j,k]
   repeat' (refine em (λq=> ?_) (λq=> ?_)<;>simp[q,c,e])
def LA{a:H}(h:ij 0 a)(b:List Int)(hl:b.length<=1000000):∃f c,iM cx a 38 38 dH (sl (gD b))=some (.val f c)/\Gr c f 1 (gD b)/\Nb a c/\(∀d,dU f=some d->a.size<=d)/\(c=a\/c=a.cons ⟨1,0,0,false,false,gD b⟩):=by
 unfold iM oP mh;simp only[kz,dY,show nL.u= .slice 3 from rfl,mM,PE];cases b with
 |nil=>exact⟨_,_,rfl,Gr.nil _ _,Nb.refl h,λd e=>by simp at e,.inl rfl⟩
 |cons g b=>
  refine⟨.arr a.size 0 0 (gD (g::b)).length false,a.cons ⟨1,0,0,false,false,gD (g::b)⟩,?_,Gr.new (ep:=0) (ver:=0) (ex:=false) dC,(Nb.refl h).cons _,λd e=>by simp at e;omega,.inr rfl⟩;rw[mp (by simp[T.cells]),ir];show jz (a.jb 1 8 [] (gD (g::b)))=_;rw[oU (by simp[T.cells]) dF (by simp at hl|-;omega)];rfl
structure PeP(c:jO)(s:iL)(th:Int)(e:eK)(t:ez)(x:fZ)(i:fU):Prop where
 f:Xu c s
 n:jt th c.dM.length=true
 ht:s.dM[th.toNat]? =some t
 hx:c.dM[th.toNat]? =some x
 hi:x.jk[t.pC.toNat]? =some i
 k:e.kind=1\/e.kind=17\/(e.kind=mF i.op/\e.kind≠0)
def ZG(a:Nat)(c:iL):Prop:=∀d∈c.dM,∀b∈d.kc,b.length<=a
def evN(a:Nat)(b:eK):Prop:=b.mG.length<=a/\b.vh.length<=a
def Vw(c:jO)(f:iL)(h:Int)(e:T):Prop:=∃(a:eK) (b:Bool),e= .tuple [a.t,.bool b]/\evN 1000000 a/\(b=true->∃g i d,PeP c f h a g i d)
def HR{f:jO}{m:iL}(g:Xu f m){d:Int}(h:jt d f.dM.length=true):∃b a c,ka d=some d.toNat/\m.dM[d.toNat]? =some b/\f.dM[d.toNat]? =some a/\ka b.pC=some b.pC.toNat/\a.jk[b.pC.toNat]? =some c/\b.iS.length=a.iS/\b.kc.length=a.iS/\(∀e∈iU c,0<=e/\e<a.iS)/\a.iS<=32:=by
 obtain⟨a,i,_⟩:=iK h;have j:=h;rw[<-g.th]at j;obtain⟨b,ht,_⟩:=iK j;obtain⟨p1,p2,p3,p4⟩:=g.t _ _ _ ht i;obtain⟨c,k⟩:∃c,a.jk[b.pC.toNat]? =some c:=⟨_,aB dB⟩;have l:=g.v.2.2 a (ax i);exact⟨b,a,c,eQ (fw.1 h).1,ht,i,eQ p1,k,p3,p4,λe hr=>l.2.2 c (ax k) e hr,l.2.1⟩
structure PJ(th:Int)(t:ez)(i:fU)(o:Int)(h':H)(dv:T)(d:List Int)(ver:Nat):Prop where
 ok:ij 6 h'
 b2:h'.get 2=some (dI 7 0 [.agg [dG 0,dG 0,dG 0,dG 0,dG 0,dH,dH]])
 b3:h'.get 3=some (dI 4 1 [t.t])
 b4:h'.get 4=some (dI 6 1 [i.t])
 b5:h'.get 5=some (dI 7 ver [.agg [dG th,dG (mF i.op),dG o,dG 0,dG i.jg,dv,dH]])
 g:Gr h' dv 1 (gD d)
 l:d.length<=1000000
 bx:∀c,dU dv=some c->6<=c
def PJ.app{p:Int}{t:ez}{j:fU}{o:Int}{h:H}{q:Nat}(e:PJ p t j o h dH [] q)(k:List Int)(hl:k.length<=1000000):∃c b,iM cx h 38 38 dH (sl (gD k))=some (.val c b)/\c.im=true/\c.cells=[c]/\(∀a,a<6->b.get a=h.get a)/\ij 6 b/\
 ∀d,d=((dI 7 (q+1) [.agg [dG p,dG (mF j.op),dG o,dG 0,dG j.jg,c,dH]]):iY)->PJ p t j o (d8 b 5 d) c k (q+1):=by
 have w:=e.ok.sz;obtain⟨c,b,u,m,l,r,_⟩:=LA ⟨e.ok.hp,e.ok.low,aw _⟩ k hl;have f:∀a,a<6->b.get a=h.get a:=λa i=>l.get a dB;have s:ij 6 b:=⟨l.ok.hp,l.ok.low,aS w l.ok.sz⟩;have v:=(f 5 dB).trans e.b5;have g:∀d a,(d8 b 5 d).get a=if a=5 then some d else b.get a:=λd a=>dQ v d a;refine⟨c,b,u,m.im,m.cells,f,s,?_⟩;rintro d rfl;exact⟨s.put _ _,by rw[g,ao dB];exact(f 2 dB).trans e.b2,by rw[g,ao dB];exact(f 3 dB).trans e.b3,by rw[g,ao dB];exact(f 4 dB).trans e.b4,by rw[g,aq rfl],m.mono λa i=>by rw[g,ao (by have:=r a i;omega)],hl,λa i=>by have:=r a i;omega⟩
def zR:nK Tryz.prog cx 149 (λn:jO×iL×Int=>[n.1.t,n.2.1.t,dG n.2.2]) (λn=>(∀x∈n.1.dM,x.jk.length<=10000001)/\ZG 1000000 n.2.1) (λn=>Vw n.1 n.2.1 n.2.2):=by
 refine ju (tb:=⟨pt [(199,Hr.jx),(200,wv),(201,Ca.jx)],ht []⟩) fc fa (je 10633824283312870803151638865622599647 [(11,[(2,8),(4,8),(6,8)]),(14,[(2,3),(2,4)])] Tryz.func149) (λ_=>100) (λn b S=>by simp at S;exact aP (jO.inj S.1) (aP (iL.inj S.2.1) S.2.2)) dC (by simp[Tryz.f149]) ?_;rintro⟨d,Y,p⟩ ⟨bz,bH⟩ J bs;simp only at bz bH;simp at bs;obtain⟨cy,aE,G⟩:=bs;obtain⟨_,⟨b,rfl,bu⟩,bi⟩:=Hr.use (d,Y) bz;simp only at bu bi;have aN:Vw d Y p (.tuple [eK.t ⟨0,0,0,0,0,[],[]⟩,.bool false]):=⟨_,_,rfl,⟨dC,dC⟩,dC⟩;simp[Tryz.f149,cy,aE,G,bi];refine em (λaX=> ?_) (λaX=> ?_)
 ·simp;exact aN
 simp only[cr,cK,bU]at aX;obtain⟨⟨rfl,b8⟩,ds⟩:=aX;have U:=bu rfl;have a6:jt p d.dM.length=true:=fw.2 ⟨dB,dB⟩;obtain⟨w,x,e,bN,a7,bS,c7,bT,di,dk,b6,dm⟩:=HR U a6;have c4:jt p Y.fO.dM.length=true:=by
  rw[(ou U.f).2.2,<-U.v.2.1];exact a6
 obtain⟨u,ca,_⟩:=iK c4;simp[G,bN,a7,bS,c7,bT,ca];have W:∀y:eK,evN 1000000 y->(y.kind=1\/y.kind=17\/(y.kind=mF e.op/\y.kind≠0))->Vw d Y p (.tuple [y.t,.bool true]):=λy aE G=>⟨y,true,rfl,aE,λ_=>⟨w,x,e,U,a6,a7,bS,bT,G⟩⟩;refine em (λb8=> ?_) (λb8=> ?_)
 ·simp[G];exact W ⟨p,1,-1,0,-1,[],[]⟩ ⟨dC,dC⟩ (.inl rfl)
 cases an:decide (u.iN=4)with
 |true=>
  simp[G,an,bN,ca];exact W ⟨p,17,u.cond,0,e.jg,[],[]⟩ ⟨dC,dC⟩ (.inr (.inl rfl))
 |false=>
 cases a8:decide (u.iN=2)with
 |false=>
  simp[an,a8];exact aN
 |true=>
  have bC:∀r∈iU e,jt r w.kc.length=true:=λr hr=>by have:=b6 r hr;exact fw.2 ⟨dB,dB⟩
  have cX:Xo e w:=λk=>by
   have hr:e.c∈iU e:=by unfold iU;rcases k with k|k<;>simp[k]
   have:=b6 _ hr;exact fw.2 ⟨dB,dB⟩
  obtain⟨_,⟨L,rfl⟩,bk⟩:=Ca.use (e,w) cX;simp only at bk;simp[an,a8,Tc,bk];refine em (λE=> ?_) (λE=> ?_)
  ·simp;exact aN
  have bB:mF e.op≠0:=by simpa using E
  simp;generalize I:H.cons _ _=C;have X:ij 6 C:=by rw[<-I];exact⟨dC,dC,dC⟩
  have cb:C.get 2=some (dI 7 0 [.agg [dG 0,dG 0,dG 0,dG 0,dG 0,dH,dH]]):=by rw[<-I];simp
  have O:C.get 3=some (dI 4 1 [w.t]):=by rw[<-I];simp
  have P:C.get 4=some (dI 6 1 [e.t]):=by rw[<-I];simp
  have s:∃al,C.get 5=some (dI 7 al [.agg [dG p,dG (mF e.op),dG L,dG 0,dG e.jg,dH,dH]]):=⟨3,by rw[<-I];simp⟩;clear I;obtain⟨dd,s⟩:=s;have Z:∀{r:Int},r∈iU e->∃j,ka r=some r.toNat/\w.kc[r.toNat]? =some j/\j.length<=1000000:=λ{r} hr=>by
   obtain⟨j,hl,_⟩:=iK (bC r hr);exact⟨j,eQ (fw.1 (bC r hr)).1,hl,bH w (ax a7) j (ax hl)⟩
  have dn:ij 0 C:=⟨X.hp,X.low,aw _⟩;have ea:=X.sz;have V:PJ p w e L C dH [] dd:=⟨X,cb,O,P,s,Gr.nil _ _,dC,λd E=>by simp at E⟩;refine lq (λJ h'=>∃R F al,PJ p w e L h' R F al/\dJ J 6 (.ptr 2 0 0 0)/\dJ J 8 (.ptr 3 0 0 0)/\dJ J 9 (.ptr 4 0 0 0)/\dJ J 10 (.ptr 5 0 0 0)) (λb9=> ?_) (λb9=> ?_) ?_
  ·have T:e.op=10:=by simpa using b9
   obtain⟨j,l1,l2,l3⟩:=Z (r:=e.a) (by unfold iU;simp[T]);obtain⟨ae,o,B,N,M,z,b7,fin⟩:=V.app j l3;have sv:=λd (m:d<6)=>fk (z d m);have A:=(z 5 dB).trans s;simp[O,P,s,l1,l2,B,N,M,A,ed];exact⟨_,_,_,fin _ rfl⟩
  ·cases Q:decide (e.op=7)with
   |true=>
    obtain⟨j,l1,l2,l3⟩:=Z (r:=e.c) (by unfold iU;simp[show e.op=7 by simpa using Q]);obtain⟨ae,o,B,N,M,z,b7,fin⟩:=V.app j l3;have sv:=λd (m:d<6)=>fk (z d m);have A:=(z 5 dB).trans s;simp[Q,O,P,s,l1,l2,B,N,M,A,ed];exact⟨_,_,_,fin _ rfl⟩
   |false=>
   cases ap:decide (e.op=9)with
   |true=>
    obtain⟨j,l1,l2,l3⟩:=Z (r:=e.c) (by unfold iU;simp[show e.op=9 by simpa using ap]);obtain⟨ae,o,B,N,M,z,b7,fin⟩:=V.app j l3;have sv:=λd (m:d<6)=>fk (z d m);have A:=(z 5 dB).trans s;simp[Q,ap,O,P,s,l1,l2,B,N,M,A,ed];exact⟨_,_,_,fin _ rfl⟩
   |false=>
    simp[Q,ap];exact⟨_,_,_,V⟩
  rintro J h' ⟨R,F,al,i,bn,cL,bp,T⟩;have dv:=i.ok.sz;have c9:ij 0 h':=⟨i.ok.hp,i.ok.low,aw _⟩;simp[bp,i.b4];refine em (λE=> ?_) (λE=> ?_)
  ·have c1:e.op=8\/e.op=9\/e.op=26:=by
    simp only[cm,aJ]at E;omega
   obtain⟨j,l1,l2,l3⟩:=Z (r:=e.b) (by unfold iU;rcases c1 with k|k|k<;>simp[k]);obtain⟨ae,o,B,g,D,ce,_⟩:=LA c9 j l3;have sv:=λd (m:d<6)=>fk (D.get d dB);have de:=(D.get 2 dB).trans i.b2;have A:=(D.get 5 dB).trans i.b5;have K:∀h d,(d8 o 5 h).get d=if d=5 then some h else o.get d:=λh d=>dQ A h d;have aA:∀h q d,(d8 (d8 o 5 h) 2 q).get d=if d=2 then some q else if d=5 then some h else o.get d:=λh q d=>by
    rw[m6 (by simp;exact D.ok.hp) (by have:=D.ok.sz;simp;omega),K]
   have av:∀h q,TI.fz (d8 (d8 o 5 h) 2 q) R=some (sl (gD F)):=λh q=>(i.g.mono (h':=d8 (d8 o 5 h) 2 q) λd m=>by
    obtain⟨_,_,_,_,c6,_⟩:=i.g.box m;have:=i.bx d m;rw[aA,ao dB,ao dB];exact D.get d (H.eJ c6)).fz dC
   have cp:∀h q,TI.fz (d8 (d8 o 5 h) 2 q) ae=some (sl (gD j)):=λh q=>(g.mono (h':=d8 (d8 o 5 h) 2 q) λd m=>by
    have:=ce d m;rw[aA,ao dB,ao dB]).fz dC
   simp[bn,cL,bp,T,i.b3,i.b4,i.b5,l1,l2,B,g.im,g.cells,de,A,K,aA,av,cp,ed,D.ok.hp];exact W ⟨p,mF e.op,L,0,e.jg,F,j⟩ ⟨i.l,l3⟩ (.inr (.inr ⟨rfl,bB⟩))
  ·have K:∀h d,(d8 h' 2 h).get d=if d=2 then some h else h'.get d:=λh d=>dQ i.b2 h d;have av:∀h,TI.fz (d8 h' 2 h) R=some (sl (gD F)):=λh=>(i.g.mono (h':=d8 h' 2 h) λd m=>by
    have:=i.bx d m;rw[K,ao dB]).fz dC
   simp[bn,T,i.b2,i.b5,K,av,ed,i.ok.hp];exact W ⟨p,mF e.op,L,0,e.jg,F,[]⟩ ⟨i.l,dC⟩ (.inr (.inr ⟨rfl,bB⟩))
structure TE(n0:Nat)(h':H)(ct:T)(es:List T)(ts:List ez)(lo hi:Nat->Nat):Prop where
 g:Gr h' ct 4 es
 l:es.length=ts.length
 e:∀(i:Nat) (e:T) (t:ez),es[i]? =some e->ts[i]? =some t->∃a b el,e=Bd t a b/\AS (lo i) (hi i) h' a b el t
 m:∀i,i<ts.length->n0<=lo i/\hi i<=h'.size
 d:∀i j,i<j->j<ts.length->hi i<=lo j
 c:∀c,dU ct=some c->n0<=c/\∀i,i<ts.length->¬(lo i<=c/\c<hi i)
def TE.mono{j:Nat}{f h':H}{k:T}{n:List T}{s:List ez}{q h:Nat->Nat}(b:TE j f k n s q h)(C:f.size<=h'.size)(p:∀a,j<=a->a<f.size->h'.get a=f.get a):TE j h' k n s q h:=
 ⟨b.g.mono λa r=>p a (b.c a r).1 (by obtain⟨_,_,_,_,z,_⟩:=b.g.box r;exact H.eJ z),b.l,λi v B A o=>by
   obtain⟨t,u,y,w,x⟩:=b.e i v B A o;have D:=b.m i (by have:=(List.getElem?_eq_some_iff.1 o).1;exact this);exact⟨t,u,y,w,x.mono (au _) (au _) λa E F=>p a dB dB⟩,λi h=>by have:=b.m i h;omega,b.d,b.c⟩
def TE.app{y:Nat}{o r D:H}{v B:T}{w:List T}{i:List ez}{F h:Nat->Nat}(f:TE y o v w i F h)(V:y<=o.size)(G:Nb o r){s t:T}{C:List T}{u:ez}(S:AS o.size r.size r s t C u)(x:Xt r v 4 (w++[Bd u s t]) B D):
 TE y D B (w++[Bd u s t]) (i++[u]) (λa=>if a=i.length then o.size else F a) (λa=>if a=i.length then r.size else h a):=by
 have X:=G.ok.sz;have Y:=x.2.2.2.sz;have A:∀b,dU v=some b->b<o.size:=λb q=>by obtain⟨_,_,_,_,P,_⟩:=f.g.box q;exact H.eJ P
 refine⟨x.1,by simp[f.l],λa L U p k=> ?_,λa h=> ?_,λa E Q R=> ?_,λb q=> ?_⟩
 ·by_cases q:a=i.length
  ·subst q;rw[cD (au _),Nat.sub_self]at k;rw[cD (by rw[f.l];exact au _),f.l,Nat.sub_self]at p;simp at p k;subst p;subst k;refine⟨s,t,C,rfl,?_⟩;simp only[bg];exact S.mono (au _) (au _) λb I z=>x.2.1 b z λq=>by have:=A b q;omega
  ·have h:a<i.length:=by have:=(List.getElem?_eq_some_iff.1 k).1;simp at this;omega
   rw[bY h]at k;rw[bY (by rw[f.l];exact h)]at p;obtain⟨J,K,O,M,N⟩:=f.e a L U p k;have W:=f.m a h;rw[ao q,ao q];exact⟨J,K,O,M,N.mono (au _) (au _) λb I z=>(x.2.1 b dB λq=>((f.c b q).2 a h ⟨I,z⟩)).trans (G.get b dB)⟩
 ·simp at h;by_cases q:a=i.length
  ·rw[aq q,aq q];omega
  ·rw[ao q,ao q];have:=f.m a dB;omega
 ·simp at R;by_cases q:E=i.length
  ·rw[ao dB,aq q];have:=f.m a dB;omega
  ·rw[ao dB,ao q];exact f.d a E Q dB
 ·rcases x.2.2.1 b q with q|q
  ·refine⟨(f.c b q).1,λa h=> ?_⟩;simp at h;by_cases j:a=i.length
   ·rw[aq j,aq j];have:=A b q;omega
   ·rw[ao j,ao j];exact(f.c b q).2 a dB
  ·refine⟨dB,λa h=> ?_⟩;simp at h;by_cases j:a=i.length
   ·rw[aq j,aq j];omega
   ·rw[ao j,ao j];have:=f.m a dB;omega
def Iw{b f:Type}{c:f->b->Prop}{d:b->f}(e:∀x,c (d x) x):∀a:List b,iG c (a.map d) a
 | []=> .nil
 |x::a=> .cons (e x) (Iw e a)
def Vt(a:iL)(d:List T)(c:H):Prop:=d=[a.t]/\ij 0 c/\El a.fO [a.fO.t] c/\a.cells.length<=1000000/\a.ei.length<=1000000/\a.dM.length<=1000000/\∀b∈a.dM,b.iS.length<=1000000/\b.kc.length<=1000000/\∀e∈b.kc,e.length<=1000000
structure Cp9(s:iL)(h h':H)(c0 c2 c3 cc cf ct:T)(es:List T)(lo hi:Nat->Nat)(n0:Nat):Prop where
 nb:Nb h h'
 z:h.size<=n0
 zn:n0<=h'.size
 k0:c0.im=true/\c0.cells=[c0]/\c2.im=true/\c2.cells=[c2]/\c3.im=true/\c3.cells=[c3]
 gc:Gr h' cc 1 (gD s.cells)
 gf:Gr h' cf 1 (gD s.ei)
 bc:∀c,dU cc=some c->h.size<=c/\c<n0
 bf:∀c,dU cf=some c->h.size<=c/\c<n0/\dU cc≠some c
 th:TE n0 h' ct es s.dM lo hi
def Ov(g:iL)(o:List T)(i:H)(n:T)(j:H):Prop:=∃a b c d e f h l k m,n= .agg [a,dG g.fO.tx,b,c,d,e,f]/\Cp9 g i j a b c d e f h l k m
structure Cq(s:iL)(h:H)(c0 c2 c3 cc cf:T)(q:Nat)(h':H)(k:Nat)(ct:T)(es:List T)(lo hi:Nat->Nat)(ver:Nat):Prop where
 nb:Nb h h'
 b1:h'.get h.size=some (dI 7 0 [s.t])
 b2:h'.get (h.size+1)=some (dI 7 0 [.agg [dH,dG 0,dH,dH,dH,dH,dH]])
 b3:h'.get q=some (dI 7 ver [.agg [c0,dG s.fO.tx,c2,c3,cc,cf,ct]])
 gc:Gr h' cc 1 (gD s.cells)
 gf:Gr h' cf 1 (gD s.ei)
 th:TE (q+1) h' ct es (s.dM.take k) lo hi
def Pc:(jF iL Vt Ov).Ok Tryz.prog cx 163:=by
 refine jv (tb:=⟨pt [],ht [(154,jF fK El Jg),(207,jF ICp Oe Jf)]⟩) fc fa (je 2097183 [(1,[(2,3),(2,5),(2,7),(6,7),(2,9),(6,9),(2,12),(6,12),(10,12)]),(5,[(1,7)])] Tryz.func163) (λ_ _=>1000005) (λw r d eH=>by obtain⟨rfl,_⟩:=eH;simp[Tryz.f163]) ?_;rintro h _ d ⟨rfl,eP,⟨_,_,p1,p2,p3,p4⟩,fB,fC,fL,eM⟩ L c4;simp at c4;have b7:=eP.hr;simp[Tryz.f163,c4];generalize G:H.cons _ _=F;have eU:ij 0 F:=by rw[<-G];exact(b7.cons _).cons _
 have gB:F.size=d.size+1+1:=by rw[<-G];rfl
 have eO:Nb d F:=by rw[<-G];exact⟨(((Nb.refl b7).cons _).cons _).ok,λa k=>((((Nb.refl b7).cons _).cons _).get a k).trans (gF d a)⟩
 have ca:F.get d.size=some (dI 7 0 [h.t]):=by rw[<-G];simp
 have cb:F.get (d.size+1)=some (dI 7 0 [.agg [dH,dG 0,dH,dH,dH,dH,dH]]):=by rw[<-G];simp
 clear G;refine kZ Hu dC h.fO ⟨rfl,eU,p1,p2,p3,p4⟩ ?_;rintro _ b ⟨s,u,v,fi,rfl,K,E⟩;have gn:=E.ok.sz;have c7:ij 0 b:=⟨E.ok.hp,E.ok.low,aw _⟩;have a1:=(E.get d.size dB).trans ca;have a2:=(E.get (d.size+1) dB).trans cb;obtain⟨Z,W,bn,⟨gi,gk,bp⟩,ea,U,okB⟩:=lP (cx:=cx) (sz:=1) c7 (x:=sl (h.cells.map (T.int .i64))) (xs:=h.cells.map (T.int .i64)) oR rfl yT oR rfl rfl dC dC (by simp[T.cells]) dD;obtain⟨ae,M,Y,⟨gj,gm,al⟩,e9,I,b6⟩:=lP (cx:=cx) (sz:=1) okB (x:=sl (h.ei.map (T.int .i64))) (xs:=h.ei.map (T.int .i64)) oR rfl yT oR rfl rfl dC dC (by simp[T.cells]) dD;have cy:∀a,a<b.size->ff (b.cons (dI 1 0 [])) W a=true:=λa k=>fk ((U a k).trans (by rw[dW,ao dB]));have cL:∀a,a<W.size->ff (W.cons (dI 1 0 [])) M a=true:=λa k=>fk ((I a k).trans (by rw[dW,ao dB]));have dk:=fk (E.get d.size dB);have dn:=cy d.size dB;have eV:=cL d.size dB;have ds:∀a,b.size+1<=a->ff (b.cons (dI 1 0 [])) W a=true:=λa k=>jc (ll _ dD);have dv:∀a,b.size+2<=a->ff (W.cons (dI 1 0 [])) M a=true:=λa k=>jc (ll _ dD);have b9:∀a,b.size<=a->ff F b a=true:=λa k=>jc (ll _ dB);have bk:=(U d.size dB).trans a1;have ce:=(I d.size dB).trans bk;have cp:=(I (d.size+1) dB).trans ((U (d.size+1) dB).trans a2);have fS:=c7.low;have fY:=okB.low;have gd:=b6.low;simp only[aG]at bn Y bp al;rw[ea]at Y al;have e7:(d.size=b.size)=False:=dD;have gp:(d.size+1=b.size)=False:=dD;have e8:(d.size=b.size+1)=False:=dD;have gv:(d.size+1=b.size+1)=False:=dD;have dm:=b9 (b.size+1+1) dB;have eE:s.im=true/\s.cells=[s]/\u.im=true/\u.cells=[u]/\v.im=true/\v.cells=[v]:=⟨K.g0.im,K.g0.cells,K.g2.im,K.g2.cells,K.g3.im,K.g3.cells⟩;obtain⟨eh,eo,er,et,eu,ey⟩:=eE;simp[NF,a1,bn,Y,ea,e9,bk,dk,dn,b9,ds,dv,e7,e8,dm];have gg:d.size+1<b.size+1+1:=dB;have fb:M.size=b.size+1+1:=dB;generalize R:M.cons ⟨7,0,0,true,false,_⟩=Q;have e6:Q.size=b.size+1+1+1:=by rw[<-R];simp[size_cons,fb]
 have eS:ij 0 Q:=by rw[<-R];exact ij.cons ⟨b6.hp,b6.low,aw _⟩ _
 have bs:Q.get (b.size+1+1)=some (dI 7 0 [.agg [dH,dG 0,dH,dH,dH,dH,dH]]):=by
  rw[<-R,dW,aq dB]
 have c6:∀a,a<b.size+1+1->Q.get a=M.get a:=λa k=>by rw[<-R,dW,ao dB]
 generalize S:d8 Q _ _=D;have gz:D.size=b.size+1+1+1:=by rw[<-S,fV,e6]
 have dd:ij 0 D:=by rw[<-S];exact eS.put _ _
 have eA:=(show D.get (b.size+1+1)=some (dI 7 1 [.agg [s,dG h.fO.tx,u,v,.arr b.size Z 0 h.cells.length false,.arr (b.size+1) ae 0 h.ei.length false,dH]])by rw[<-S];exact(dQ bs _ _).trans (aq rfl));have J:∀a,a<b.size+1+1->D.get a=M.get a:=λa k=>by rw[<-S,dQ bs,ao dB];exact c6 a k
 clear S R;have bu:Gr D (.arr b.size Z 0 h.cells.length false) 1 (gD h.cells):=by
  have:=Gr.new (((J b.size dB).trans (I b.size dB)).trans bp);simpa using this
 have bz:Gr D (.arr (b.size+1) ae 0 h.ei.length false) 1 (gD h.ei):=by
  have:=Gr.new ((J (b.size+1) dB).trans al);simpa using this
 have eN:Nb d D:=⟨⟨dd.hp,dd.low,dB⟩,λa k=>(J a dB).trans ((I a dB).trans ((U a dB).trans ((E.get a dB).trans (eO.get a k))))⟩;have eb:=(J d.size dB).trans ce;have ec:=(J (d.size+1) dB).trans cp;have X:∀a,dU (.arr b.size Z 0 h.cells.length false)=some a->a=b.size:=λa i=>by simpa using i.symm
 have N:∀a,dU (.arr (b.size+1) ae 0 h.ei.length false)=some a->a=b.size+1:=λa i=>by simpa using i.symm
 generalize T.arr b.size Z 0 h.cells.length false=B at*
 generalize T.arr (b.size+1) ae 0 h.ei.length false=C at*
 have a6:∀a,dU B=some a->d.size<=a/\a<b.size+1+1+1:=λa i=>by have:=X a i;omega
 have a7:∀a,dU C=some a->d.size<=a/\a<b.size+1+1+1/\dU B≠some a:=λa i=>⟨by have:=N a i;omega,by have:=N a i;omega,λb8=>by have:=X a b8;have:=N a i;omega⟩;have de:∀a,dU B=some a->a≠b.size+1+1/\a≠d.size+1:=λa i=>by have:=X a i;omega
 have di:∀a,dU C=some a->a≠b.size+1+1/\a≠d.size+1:=λa i=>by have:=N a i;omega
 clear X N bn Y bp al dk dn eV b9 ds dv dm U I cy cL bk ce cp a1 a2 ca cb J c6 bs;generalize b.size+1+1=i at*
 have fl:=bu.im;have fo:=bu.cells;have fs:=bz.im;have fv:=bz.cells;refine sr h.dM.length (λo L h'=>∃p P aX aE V,Cq h d s u v B C i h' o p P aX aE V/\dJ L 1 (.ptr d.size 0 0 0)/\dJ L 2 (.ptr (d.size+1) 0 0 0)/\dJ L 3 (.ptr i 0 0 0)/\dJ L 4 (dG o)) ?_ dB (aw _) ?_
 ·rintro o L h' fE ⟨p,P,aX,aE,V,f,bB,cX,av,bC⟩;simp[bB,bC,f.b1];refine em (λbH=> ?_) (λbH=> ?_)
  ·have bN:o<h.dM.length:=by simpa using bH
   obtain⟨m,aN⟩:∃m,h.dM[o]? =some m:=⟨_,aB bN⟩;have eF:h.dM[o]=m:=by rw[aB bN]at aN;simpa using aN
   have bT:=eM m (ax aN);simp[bB,av,bC,f.b1,f.b3,bN,eF];have eR:ij 0 h':=⟨f.nb.ok.hp,f.nb.ok.low,aw _⟩;refine kZ Hv dC ⟨m,sl (gD m.iS),sl (m.kc.map ZH),m.kc.map ZH⟩ ⟨by rfl,⟨.inl rfl,.inl rfl,?_,?_⟩,eR,bT.1,bT.2.1,bT.2.2⟩ ?_
   ·exact Iw (λl=> .inl rfl) _
   ·rintro e a (rfl|rfl|he) x
    ·simp at x
    ·simp at x
    ·obtain⟨l,_,rfl⟩:=List.mem_map.1 he;simp[ZH]at x
   rintro _ ap ⟨r,A,fe,rfl,e5,q⟩;have b8:i+1<=h'.size:=by have:=H.eJ f.b3;omega
   have p3:=(q.get i dB).trans f.b3;have eB:Gr ap p 4 P:=f.th.g.mono λa x=>q.get a (by obtain⟨_,_,_,_,g,_⟩:=f.th.g.box x;exact H.eJ g);obtain⟨a8,aA,ef,z⟩:=eB.Dc (cx:=cx) ⟨q.ok.hp,q.ok.low,aw _⟩ PX rfl Le rfl dC (x:=Bd m r A) rfl (by have:=f.th.l;simp at this;simp;omega);have e0:=fk (q.get i dB);have eX:∀a,a<ap.size->dU p≠some a->ff (ap.cons (dI 4 0 [Bd m r A])) aA a=true:=λa k bS=>fk ((z.2.1 a k bS).trans (by rw[dW,ao dB]));have bi:dU p≠some i:=λx=>by have:=(f.th.c i x).1;omega
   have eW:=eX i (by have:=q.ok.sz;omega) bi;have p4:=(z.2.1 i (by have:=q.ok.sz;omega) bi).trans p3;have eC:(Bd m r A).im=true/\(Bd m r A).cells=[dG m.pC,r,A,dG m.dS]:=by simp[Bd,T.cells]
   have fA:Bd m r A= .agg [dG m.pC,r,A,dG m.dS]:=rfl;simp[av,bC,ef,e0,eC,eW,p4,z.1.im,z.1.cells,ed];rw[iy dB dB];simp;refine⟨o+1,dB,dB,⟨a8,P++[Bd m r A],λw=>if w=(h.dM.take o).length then h'.size else aX w,λw=>if w=(h.dM.take o).length then ap.size else aE w,V+1,?_⟩,bB,cX,av,dC⟩;have gw:=z.2.2.2.sz;have gy:=q.ok.sz;have gq:∀a,a<h'.size->a≠i->dU p≠some a->(d8 aA i (dI 7 (V+1) [.agg [s,dG h.fO.tx,u,v,B,C,a8]])).get a=h'.get a:=λa k eI bS=>by
    rw[dQ p4,ao eI,z.2.1 a dB bS,q.get a k]
   have O:∀a,a<=i->dU p≠some a:=λa k x=>by have:=(f.th.c a x).1;omega
   have c9:ij 0 aA:=⟨z.2.2.2.hp,z.2.2.2.low,aw _⟩;refine⟨⟨⟨(c9.put _ _).hp,(c9.put _ _).low,by rw[fV];have:=f.nb.ok.sz;omega⟩,λa k=>(gq a dB dB (O a dB)).trans (f.nb.get a k)⟩,
    (gq _ dB dB (O _ dB)).trans f.b1,(gq _ dB dB (O _ dB)).trans f.b2,(dQ p4 _ _).trans (aq rfl),
    f.gc.mono λa x=>gq a (by have:=a6 a x;omega) (de a x).1 (O a (by have:=a6 a x;omega)),f.gf.mono λa x=>gq a (by have:=a7 a x;omega) (di a x).1 (O a (by have:=a7 a x;omega)),?_⟩
   have e4:=(f.th.app b8 q e5 z).mono (h':=d8 aA i (dI 7 (V+1) [.agg [s,dG h.fO.tx,u,v,B,C,a8]])) (by rw[fV];exact au _) λa x _=>by rw[dQ p4,ao dB]
   have eL:h.dM.take (o+1)=h.dM.take o++[m]:=by rw[List.take_add_one,aN];rfl
   rw[eL];exact e4
  ·have eD:o=h.dM.length:=by
    have:¬o<h.dM.length:=by simpa using bH
    omega
   subst eD;have c1:=f.th;rw[aL]at c1;have bi:∀a,dU p=some a->i+1<=a:=λa x=>(f.th.c a x).1;simp[cX,av,f.b2,f.b3,ed,dQ f.b2];have an:∀a,a≠d.size+1->(lM d (d8 h' (d.size+1) (dI 7 1 [.agg [s,dG h.fO.tx,u,v,B,C,p]]))).get a=h'.get a:=λa k=>by rw[fQ,dQ f.b2,ao k]
   refine⟨s,u,v,B,C,p,P,aX,aE,i+1,rfl,⟨⟨((ij.put (n:=0) ⟨f.nb.ok.hp,f.nb.ok.low,aw _⟩ _ _).out d).hp,((ij.put (n:=0) ⟨f.nb.ok.hp,f.nb.ok.low,aw _⟩ _ _).out d).low,by rw[wz,fV];exact f.nb.ok.sz⟩,λa k=>(an a dB).trans (f.nb.get a k)⟩,dB,by rw[wz,fV];exact H.eJ f.b3,⟨eh,eo,er,et,eu,ey⟩,
    f.gc.mono λa x=>an a (de a x).2,f.gf.mono λa x=>an a (di a x).2,a6,a7,c1.mono (by rw[wz,fV];exact au _) λa x _=>an a dB⟩
 ·refine⟨dH,[],λ_=>0,λ_=>0,1,⟨eN,eb,ec,eA,bu,bz,⟨Gr.nil _ _,rfl,λw e m x=>by simp at x,λw x=>by simp at x,λw j x y=>by simp at y,λa x=>by simp at x⟩⟩,dC⟩
end
end Go.Proofs.YtmaeadedikngoaaGreatDoor
