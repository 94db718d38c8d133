/- Texts W09a to W09d. -/
import Derived.Test.YtmaeadedikngoaaGreatDoorA29
set_option linter.all false
set_option maxRecDepth 100000
set_option maxHeartbeats 8000000
namespace Go.Proofs.YtmaeadedikngoaaGreatDoor
noncomputable section
open Go Go.TI
attribute [-simp] List.map_take List.map_drop List.map_append fG fg ei Bool.not_or Bool.not_and
attribute [simp] fF fh
attribute [-simp] size_cons
def wI:List Int:=[3,3,4,4,5,6,7,8,9,10,11,12,13,14,15,16,18,19,20,21,22,23,2]
def mL(a:Int):Int:=if a<6\/28<a then 0 else wI.getD (a-6).toNat 0
def ww:hU:=⟨Int,λa=>[dE a],λa=>True,λa=> dE (mL a),λa c b=>by simp at b;rw[b]⟩
def Pf:ww.Ok Tryz.prog cx 200:=by
 refine iv (tb:=⟨pt [],ht []⟩) fa eQ (iR 1037 [] Tryz.func200) (λl=>1) (by simp[ww]) (by simp[ww,Tryz.f200]) ?_;rintro(b:Int) m n f;simp[ww]at f|-;by_cases h:b<6\/28<b
 ·have d:mL b=0:=by unfold mL;rw[aq h]
  rcases h with h|h<;>simp[Tryz.f200,f,h,d]
 ·obtain⟨a,i⟩:∃a:Nat,b=(a:Int)+6:=⟨(b-6).toNat,dz⟩;subst i;have g:a<23:=dz;obtain⟨e,d⟩:∃e,wI[a]? =some e:=⟨_,az (show a<wI.length from g)⟩;have c:(wI.map (T.int .i64))[a]? =some (dE e):=by rw[aU,d];rfl
  have j:mL ((a:Int)+6)=e:=by
   unfold mL;rw[ao h,show((a:Int)+6-6).toNat=a by omega];simp[List.getD,d]
  have k:binop .sub (dE ((a:Int)+6)) (dE 6)=some (dE (a:Int)):=by rw[kF dz dz];congr 2;omega
  simp only[wI,aV,cw]at c;obtain⟨_,c⟩:=List.getElem?_eq_some_iff.1 c;simp[Tryz.f200,f,show¬(a:Int)+6<6 by omega,show¬(28:Int)<(a:Int)+6 by omega,k,g,c,j]
def Tt{b:fJ}(ht:b.p 200=some ww)(a:Int):rl Tryz.prog cx b 200 [dE a]=some (dE (mL a)):=im ht Pf a trivial
structure XI(c:jM)(s:iK):Prop where
 v:Qr c
 f:mQ c.fj s.fM=true
 cl:s.cells.length=c.fj.cells.length
 fu:s.eg.length=c.fj.eg.length
 th:s.dK.length=c.dK.length
 t:∀(i:Nat) (t:eG) (x:fZ),s.dK[i]? =some t->c.dK[i]? =some x->0<=t.pC/\t.pC<x.jl.length/\t.iT.length=x.iT/\t.j8.length=x.iT
def Im{a:jM}(b:Qr a):a.fj.gW.length<=2/\a.dK.length<=4:=by
 have:=b.1;unfold j3 sI at this;simp only[aB,aK]at this;have c:=b.2.1;omega
def HA:nO Tryz.prog cx 199 (λh:jM×iK=>[h.1.t,h.2.t]) (λh=>∀a∈h.1.dK,a.jl.length<=10000001) (λh=>MZ (XI h.1 h.2)):=by
 refine jt (tb:=⟨pt [(74,wC.jv),(111,qS)],ht []⟩) fa eQ (iR 158456325028530997355645763711 [] Tryz.func199) (λ_=>100) (λh b g=>by simp at g;exact aR (jM.inj g.1) (iK.inj g.2)) dA (by simp[Tryz.f199]) ?_;rintro⟨f,l⟩ x m F;replace x:∀a∈f.dK,a.jl.length<=10000001:=x;simp at F;obtain⟨D,E⟩:=F;obtain⟨_,⟨b,rfl,M⟩,C⟩:=wC.use f x;cases b with
 |false=>simp[Tryz.f199,D,E,C]
 |true=>
  have G:=M rfl;obtain⟨W,X⟩:=Im G;simp[Tryz.f199,D,E,C,uT,show f.fj.gW.length<=1099511627776 by omega];refine ee (λB=> ?_) (λB=> ?_)
  ·simp
  simp only[bM,bZ,aK]at B;obtain⟨⟨⟨Q,T⟩,U⟩,V⟩:=B;simp;generalize q:(hE.cons _).cons _=w;have P:ig 2 w:=by rw[<-q];exact⟨dA,dA,dA⟩
  have j:w.get 0=some (dG 7 0 [f.t]):=by rw[<-q];simp
  have n:w.get 1=some (dG 7 0 [l.t]):=by rw[<-q];simp
  clear q;refine fy f.dK.length dz (λe m g=>ig 2 g/\g.get 0=some (dG 7 0 [f.t])/\g.get 1=some (dG 7 0 [l.t])/\(∀(d:Nat) (c:eG) (a:fZ),d<e->l.dK[d]? =some c->f.dK[d]? =some a->0<=c.pC/\c.pC<a.jl.length/\c.iT.length=a.iT/\c.j8.length=a.iT)/\dH m 2 (.ptr 0 0 0 0)/\dH m 3 (.ptr 1 0 0 0)/\dH m 5 (dE e)) ?_ ?_ dz ?_
  ·rintro e m g z L ⟨i,j,n,A,o,v,p⟩;have I:=i.ne (b:=0) dz;have O:=i.ne (b:=1) dz;have y:e<l.dK.length:=dz;obtain⟨c,ht⟩:∃c,l.dK[e]? =some c:=⟨_,az y⟩;obtain⟨a,k⟩:∃a,f.dK[e]? =some a:=⟨_,az z⟩;have J:l.dK[e]=c:=by rw[az y]at ht;simpa using ht
   have K:f.dK[e]=a:=by rw[az z]at k;simpa using k
   simp[j,n,o,v,p,z,y,I,i.low,J,K];refine ee (λu=> ?_) (λu=> ?_)
   ·simp[i.hp]
   simp only[bM,bZ,aK,bw]at u;simp[o,v,p,L];refine⟨i.cons _,by simpa[I]using j,by simpa[O]using n,λd R S N r s=> ?_⟩;rcases aF d e with H|H
   ·exact A d R S H r s
   ·have:d=e:=dz;subst this;rw[ht]at r;rw[k]at s;simp only[ar]at r s;subst r s;exact⟨dz,dz,u.1.2,u.2⟩
  ·rintro m g ⟨i,j,n,A,o,v,p⟩;simp[j,o,p,i.hp];exact⟨G,Q,dz,dz,dz,λd c a ht k=>A d c a (List.getElem?_eq_some_iff.1 k).1 ht k⟩
  ·exact⟨P,j,n,λd c a N=>by omega,dA⟩
def Hz:nO Tryz.prog cx 232 (λa:Int×Int=>[dE a.1,dE a.2]) (λa=>True) (λ_=>EQ):=by
 refine jt (tb:=⟨pt [],ht []⟩) fa eQ (iR 4275 [] Tryz.func232) (λ_=>10) (λa i b=>by simp at b;exact aR b.1 b.2) dA (by simp[Tryz.f232]) ?_;rintro⟨k,f⟩ _ j d;simp at d;obtain⟨g,c⟩:=d;by_cases e:f<1
 ·simp[Tryz.f232,c,e]
 ·simp[Tryz.f232,g,c,e,DD (show¬f=0 by omega)];refine ee (λh=> ?_) (λh=> ?_)<;>simp[c,ou]
def XC(a:fT)(b:eG):Prop:=(a.op=7\/a.op=9)->je a.c b.iT.length=true
def Cm:nO Tryz.prog cx 201 (λb:fT×eG=>[b.1.t,b.2.t]) (λb=>XC b.1 b.2) (λ_=>EQ):=by
 refine jt (tb:=⟨pt [(232,Hz.jv)],ht []⟩) fa eQ (iR 1099578740959 [(6,[(1,10)]),(8,[(1,10)])] Tryz.func201) (λ_=>10) (λb v i=>by simp at i;exact aR (fT.inj i.1) (eG.inj i.2)) dA (by simp[Tryz.f201]) ?_;rintro⟨a,u⟩ d w o;replace d:XC a u:=d;simp at o;obtain⟨j,k⟩:=o;obtain⟨r,f⟩:=Hz.fnI (γ:=Int×Int) id (λ_=>trivial);have f:∀{tb:fJ},tb.p 232=some (wR Tryz.prog cx 232 (λb:Int×Int=>[dE b.1,dE b.2]) (λb=>True) (λ_=>EQ))->∀h g,rl Tryz.prog cx tb 232 [dE h,dE g]=some (dE (r (h,g))):=λht h g=>f ht (h,g);cases c:decide (a.op=7)with
 |true=>
  obtain⟨s,hr,_⟩:=iI (d (.inl (by simpa using c)));have n:=eK (fq.1 (d (.inl (by simpa using c)))).1;have m:decide (a.op=6)=false:=by
   have:a.op=7:=by simpa using c
   exact aP dz
  have l:decide (a.op=27)=false:=by
   have:a.op=7:=by simpa using c
   exact aP dz
  simp[Tryz.f201,j,k,c,m,l,hr,n,f,ou]
 |false=>
  cases e:decide (a.op=9)with
  |true=>
   obtain⟨s,hr,_⟩:=iI (d (.inr (by simpa using e)));have n:=eK (fq.1 (d (.inr (by simpa using e)))).1;have m:decide (a.op=6)=false:=by
    have:a.op=9:=by simpa using e
    exact aP dz
   have l:decide (a.op=27)=false:=by
    have:a.op=9:=by simpa using e
    exact aP dz
   simp[Tryz.f201,j,k,c,e,m,l,hr,n,f,ou]
  |false=>
   simp[Tryz.f201,j,k]
   repeat' (refine ee (λq=> ?_) (λq=> ?_)<;>simp[q,c,e])
def LP{a:H}(h:ig 0 a)(b:List Int)(hl:b.length<=1000000):∃f c,iO cx a 38 38 dF (sl (gF b))=some (.val f c)/\Gr c f 1 (gF b)/\Nb a c/\(∀d,dS f=some d->a.size<=d)/\(c=a\/c=a.cons ⟨1,0,0,false,false,gF b⟩):=by
 unfold iO pM mV;simp only[ko,dX,show nH.u= .slice 3 from rfl,nc,PW];cases b with
 |nil=>exact⟨_,_,rfl,Gr.nil _ _,Nb.refl h,λd e=>by simp at e,.inl rfl⟩
 |cons g b=>
  refine⟨.arr a.size 0 0 (gF (g::b)).length false,a.cons ⟨1,0,0,false,false,gF (g::b)⟩,?_,Gr.new (ep:=0) (ver:=0) (ex:=false) dA,(Nb.refl h).cons _,λd e=>by simp at e;omega,.inr rfl⟩;rw[my (by simp[T.cells]),iu];show jA (a.jc 1 8 [] (gF (g::b)))=_;rw[o8 (by simp[T.cells]) dD (by simp at hl|-;omega)];rfl
structure PeP(c:jM)(s:iK)(th:Int)(e:ez)(t:eG)(x:fZ)(i:fT):Prop where
 f:XI c s
 n:je th c.dK.length=true
 ht:s.dK[th.toNat]? =some t
 hx:c.dK[th.toNat]? =some x
 hi:x.jl[t.pC.toNat]? =some i
 k:e.kind=1\/e.kind=17\/(e.kind=mL i.op/\e.kind≠0)
def ZQ(a:Nat)(c:iK):Prop:=∀d∈c.dK,∀b∈d.j8,b.length<=a
def evN(a:Nat)(b:ez):Prop:=b.mN.length<=a/\b.vh.length<=a
def VO(c:jM)(f:iK)(h:Int)(e:T):Prop:=∃(a:ez) (b:Bool),e= .tuple [a.t,.bool b]/\evN 1000000 a/\(b=true->∃g i d,PeP c f h a g i d)
def HX{f:jM}{m:iK}(g:XI f m){d:Int}(h:je d f.dK.length=true):∃b a c,kj d=some d.toNat/\m.dK[d.toNat]? =some b/\f.dK[d.toNat]? =some a/\kj b.pC=some b.pC.toNat/\a.jl[b.pC.toNat]? =some c/\b.iT.length=a.iT/\b.j8.length=a.iT/\(∀e∈iV c,0<=e/\e<a.iT)/\a.iT<=32:=by
 obtain⟨a,i,_⟩:=iI h;have j:=h;rw[<-g.th]at j;obtain⟨b,ht,_⟩:=iI j;obtain⟨p1,p2,p3,p4⟩:=g.t _ _ _ ht i;obtain⟨c,k⟩:∃c,a.jl[b.pC.toNat]? =some c:=⟨_,az dz⟩;have l:=g.v.2.2 a (ax i);exact⟨b,a,c,eK (fq.1 h).1,ht,i,eK p1,k,p3,p4,λe hr=>l.2.2 c (ax k) e hr,l.2.1⟩
structure PJ(th:Int)(t:eG)(i:fT)(o:Int)(h':H)(dv:T)(d:List Int)(ver:Nat):Prop where
 ok:ig 6 h'
 b2:h'.get 2=some (dG 7 0 [.agg [dE 0,dE 0,dE 0,dE 0,dE 0,dF,dF]])
 b3:h'.get 3=some (dG 4 1 [t.t])
 b4:h'.get 4=some (dG 6 1 [i.t])
 b5:h'.get 5=some (dG 7 ver [.agg [dE th,dE (mL i.op),dE o,dE 0,dE i.jk,dv,dF]])
 g:Gr h' dv 1 (gF d)
 l:d.length<=1000000
 bx:∀c,dS dv=some c->6<=c
def PJ.app{p:Int}{t:eG}{j:fT}{o:Int}{h:H}{q:Nat}(e:PJ p t j o h dF [] q)(k:List Int)(hl:k.length<=1000000):∃c b,iO cx h 38 38 dF (sl (gF k))=some (.val c b)/\c.il=true/\c.cells=[c]/\(∀a,a<6->b.get a=h.get a)/\ig 6 b/\
 ∀d,d=((dG 7 (q+1) [.agg [dE p,dE (mL j.op),dE o,dE 0,dE j.jk,c,dF]]):iZ)->PJ p t j o (dY b 5 d) c k (q+1):=by
 have w:=e.ok.sz;obtain⟨c,b,u,m,l,r,_⟩:=LP ⟨e.ok.hp,e.ok.low,aw _⟩ k hl;have f:∀a,a<6->b.get a=h.get a:=λa i=>l.get a dz;have s:ig 6 b:=⟨l.ok.hp,l.ok.low,aS w l.ok.sz⟩;have v:=(f 5 dz).trans e.b5;have g:∀d a,(dY b 5 d).get a=if a=5 then some d else b.get a:=λd a=>dP v d a;refine⟨c,b,u,m.il,m.cells,f,s,?_⟩;rintro d rfl;exact⟨s.put _ _,by rw[g,ao dz];exact(f 2 dz).trans e.b2,by rw[g,ao dz];exact(f 3 dz).trans e.b3,by rw[g,ao dz];exact(f 4 dz).trans e.b4,by rw[g,aq rfl],m.mono λa i=>by rw[g,ao (by have:=r a i;omega)],hl,λa i=>by have:=r a i;omega⟩
def Aa:nO Tryz.prog cx 149 (λn:jM×iK×Int=>[n.1.t,n.2.1.t,dE n.2.2]) (λn=>(∀x∈n.1.dK,x.jl.length<=10000001)/\ZQ 1000000 n.2.1) (λn=>VO n.1 n.2.1 n.2.2):=by
 refine jt (tb:=⟨pt [(199,HA.jv),(200,ww),(201,Cm.jv)],ht []⟩) fa eQ (iR 10633824283312870803151638865622599647 [(11,[(2,8),(4,8),(6,8)]),(14,[(2,3),(2,4)])] Tryz.func149) (λ_=>100) (λn b S=>by simp at S;exact aR (jM.inj S.1) (aR (iK.inj S.2.1) S.2.2)) dA (by simp[Tryz.f149]) ?_;rintro⟨d,Y,p⟩ ⟨bz,bH⟩ J bs;simp only at bz bH;simp at bs;obtain⟨cp,aE,G⟩:=bs;obtain⟨_,⟨b,rfl,bu⟩,bi⟩:=HA.use (d,Y) bz;simp only at bu bi;have aN:VO d Y p (.tuple [ez.t ⟨0,0,0,0,0,[],[]⟩,.bool false]):=⟨_,_,rfl,⟨dA,dA⟩,dA⟩;simp[Tryz.f149,cp,aE,G,bi];refine ee (λaX=> ?_) (λaX=> ?_)
 ·simp;exact aN
 simp only[bM,bZ,bw]at aX;obtain⟨⟨rfl,b7⟩,ds⟩:=aX;have U:=bu rfl;have a6:je p d.dK.length=true:=fq.2 ⟨dz,dz⟩;obtain⟨w,x,e,bN,a7,bS,c7,bT,di,dk,bX,dm⟩:=HX U a6;have c4:je p Y.fM.dK.length=true:=by
  rw[(oD U.f).2.2,<-U.v.2.1];exact a6
 obtain⟨u,b9,_⟩:=iI c4;simp[G,bN,a7,bS,c7,bT,b9];have W:∀y:ez,evN 1000000 y->(y.kind=1\/y.kind=17\/(y.kind=mL e.op/\y.kind≠0))->VO d Y p (.tuple [y.t,.bool true]):=λy aE G=>⟨y,true,rfl,aE,λ_=>⟨w,x,e,U,a6,a7,bS,bT,G⟩⟩;refine ee (λb7=> ?_) (λb7=> ?_)
 ·simp[G];exact W ⟨p,1,-1,0,-1,[],[]⟩ ⟨dA,dA⟩ (.inl rfl)
 cases an:decide (u.iL=4)with
 |true=>
  simp[G,an,bN,b9];exact W ⟨p,17,u.cond,0,e.jk,[],[]⟩ ⟨dA,dA⟩ (.inr (.inl rfl))
 |false=>
 cases a8:decide (u.iL=2)with
 |false=>
  simp[an,a8];exact aN
 |true=>
  have bC:∀r∈iV e,je r w.j8.length=true:=λr hr=>by have:=bX r hr;exact fq.2 ⟨dz,dz⟩
  have cX:XC e w:=λk=>by
   have hr:e.c∈iV e:=by unfold iV;rcases k with k|k<;>simp[k]
   have:=bX _ hr;exact fq.2 ⟨dz,dz⟩
  obtain⟨_,⟨L,rfl⟩,bk⟩:=Cm.use (e,w) cX;simp only at bk;simp[an,a8,Tt,bk];refine ee (λE=> ?_) (λE=> ?_)
  ·simp;exact aN
  have bB:mL e.op≠0:=by simpa using E
  simp;generalize I:H.cons _ _=C;have X:ig 6 C:=by rw[<-I];exact⟨dA,dA,dA⟩
  have ca:C.get 2=some (dG 7 0 [.agg [dE 0,dE 0,dE 0,dE 0,dE 0,dF,dF]]):=by rw[<-I];simp
  have O:C.get 3=some (dG 4 1 [w.t]):=by rw[<-I];simp
  have P:C.get 4=some (dG 6 1 [e.t]):=by rw[<-I];simp
  have s:∃al,C.get 5=some (dG 7 al [.agg [dE p,dE (mL e.op),dE L,dE 0,dE e.jk,dF,dF]]):=⟨3,by rw[<-I];simp⟩;clear I;obtain⟨dd,s⟩:=s;have Z:∀{r:Int},r∈iV e->∃j,kj r=some r.toNat/\w.j8[r.toNat]? =some j/\j.length<=1000000:=λ{r} hr=>by
   obtain⟨j,hl,_⟩:=iI (bC r hr);exact⟨j,eK (fq.1 (bC r hr)).1,hl,bH w (ax a7) j (ax hl)⟩
  have dn:ig 0 C:=⟨X.hp,X.low,aw _⟩;have ea:=X.sz;have V:PJ p w e L C dF [] dd:=⟨X,ca,O,P,s,Gr.nil _ _,dA,λd E=>by simp at E⟩;refine ll (λJ h'=>∃R F al,PJ p w e L h' R F al/\dH J 6 (.ptr 2 0 0 0)/\dH J 8 (.ptr 3 0 0 0)/\dH J 9 (.ptr 4 0 0 0)/\dH J 10 (.ptr 5 0 0 0)) (λb8=> ?_) (λb8=> ?_) ?_
  ·have T:e.op=10:=by simpa using b8
   obtain⟨j,l1,l2,l3⟩:=Z (r:=e.a) (by unfold iV;simp[T]);obtain⟨ae,o,B,N,M,z,b6,fin⟩:=V.app j l3;have sv:=λd (m:d<6)=>fk (z d m);have A:=(z 5 dz).trans s;simp[O,P,s,l1,l2,B,N,M,A,dZ];exact⟨_,_,_,fin _ rfl⟩
  ·cases Q:decide (e.op=7)with
   |true=>
    obtain⟨j,l1,l2,l3⟩:=Z (r:=e.c) (by unfold iV;simp[show e.op=7 by simpa using Q]);obtain⟨ae,o,B,N,M,z,b6,fin⟩:=V.app j l3;have sv:=λd (m:d<6)=>fk (z d m);have A:=(z 5 dz).trans s;simp[Q,O,P,s,l1,l2,B,N,M,A,dZ];exact⟨_,_,_,fin _ rfl⟩
   |false=>
   cases ap:decide (e.op=9)with
   |true=>
    obtain⟨j,l1,l2,l3⟩:=Z (r:=e.c) (by unfold iV;simp[show e.op=9 by simpa using ap]);obtain⟨ae,o,B,N,M,z,b6,fin⟩:=V.app j l3;have sv:=λd (m:d<6)=>fk (z d m);have A:=(z 5 dz).trans s;simp[Q,ap,O,P,s,l1,l2,B,N,M,A,dZ];exact⟨_,_,_,fin _ rfl⟩
   |false=>
    simp[Q,ap];exact⟨_,_,_,V⟩
  rintro J h' ⟨R,F,al,i,bn,cL,bp,T⟩;have dv:=i.ok.sz;have c9:ig 0 h':=⟨i.ok.hp,i.ok.low,aw _⟩;simp[bp,i.b4];refine ee (λE=> ?_) (λE=> ?_)
  ·have c1:e.op=8\/e.op=9\/e.op=26:=by
    simp only[bV,aK]at E;omega
   obtain⟨j,l1,l2,l3⟩:=Z (r:=e.b) (by unfold iV;rcases c1 with k|k|k<;>simp[k]);obtain⟨ae,o,B,g,D,cb,_⟩:=LP c9 j l3;have sv:=λd (m:d<6)=>fk (D.get d dz);have de:=(D.get 2 dz).trans i.b2;have A:=(D.get 5 dz).trans i.b5;have K:∀h d,(dY o 5 h).get d=if d=5 then some h else o.get d:=λh d=>dP A h d;have aA:∀h q d,(dY (dY o 5 h) 2 q).get d=if d=2 then some q else if d=5 then some h else o.get d:=λh q d=>by
    rw[mM (by simp;exact D.ok.hp) (by have:=D.ok.sz;simp;omega),K]
   have av:∀h q,TI.fz (dY (dY o 5 h) 2 q) R=some (sl (gF F)):=λh q=>(i.g.mono (h':=dY (dY o 5 h) 2 q) λd m=>by
    obtain⟨_,_,_,_,c6,_⟩:=i.g.box m;have:=i.bx d m;rw[aA,ao dz,ao dz];exact D.get d (H.ew c6)).fz dA
   have ce:∀h q,TI.fz (dY (dY o 5 h) 2 q) ae=some (sl (gF j)):=λh q=>(g.mono (h':=dY (dY o 5 h) 2 q) λd m=>by
    have:=cb d m;rw[aA,ao dz,ao dz]).fz dA
   simp[bn,cL,bp,T,i.b3,i.b4,i.b5,l1,l2,B,g.il,g.cells,de,A,K,aA,av,ce,dZ,D.ok.hp];exact W ⟨p,mL e.op,L,0,e.jk,F,j⟩ ⟨i.l,l3⟩ (.inr (.inr ⟨rfl,bB⟩))
  ·have K:∀h d,(dY h' 2 h).get d=if d=2 then some h else h'.get d:=λh d=>dP i.b2 h d;have av:∀h,TI.fz (dY h' 2 h) R=some (sl (gF F)):=λh=>(i.g.mono (h':=dY h' 2 h) λd m=>by
    have:=i.bx d m;rw[K,ao dz]).fz dA
   simp[bn,T,i.b2,i.b5,K,av,dZ,i.ok.hp];exact W ⟨p,mL e.op,L,0,e.jk,F,[]⟩ ⟨i.l,dA⟩ (.inr (.inr ⟨rfl,bB⟩))
structure TU(n0:Nat)(h':H)(ct:T)(es:List T)(ts:List eG)(lo hi:Nat->Nat):Prop where
 g:Gr h' ct 4 es
 l:es.length=ts.length
 e:∀(i:Nat) (e:T) (t:eG),es[i]? =some e->ts[i]? =some t->∃a b el,e=Bn t a b/\A3 (lo i) (hi i) h' a b el t
 m:∀i,i<ts.length->n0<=lo i/\hi i<=h'.size
 d:∀i j,i<j->j<ts.length->hi i<=lo j
 c:∀c,dS ct=some c->n0<=c/\∀i,i<ts.length->¬(lo i<=c/\c<hi i)
def TU.mono{j:Nat}{f h':H}{k:T}{n:List T}{s:List eG}{q h:Nat->Nat}(b:TU j f k n s q h)(C:f.size<=h'.size)(p:∀a,j<=a->a<f.size->h'.get a=f.get a):TU j h' k n s q h:=
 ⟨b.g.mono λa r=>p a (b.c a r).1 (by obtain⟨_,_,_,_,z,_⟩:=b.g.box r;exact H.ew z),b.l,λi v B A o=>by
   obtain⟨t,u,y,w,x⟩:=b.e i v B A o;have D:=b.m i (by have:=(List.getElem?_eq_some_iff.1 o).1;exact this);exact⟨t,u,y,w,x.mono (au _) (au _) λa E F=>p a dz dz⟩,λi h=>by have:=b.m i h;omega,b.d,b.c⟩
def TU.app{y:Nat}{o r D:H}{v B:T}{w:List T}{i:List eG}{F h:Nat->Nat}(f:TU y o v w i F h)(V:y<=o.size)(G:Nb o r){s t:T}{C:List T}{u:eG}(S:A3 o.size r.size r s t C u)(x:Xt r v 4 (w++[Bn u s t]) B D):
 TU y D B (w++[Bn u s t]) (i++[u]) (λa=>if a=i.length then o.size else F a) (λa=>if a=i.length then r.size else h a):=by
 have X:=G.ok.sz;have Y:=x.2.2.2.sz;have A:∀b,dS v=some b->b<o.size:=λb q=>by obtain⟨_,_,_,_,P,_⟩:=f.g.box q;exact H.ew P
 refine⟨x.1,by simp[f.l],λa L U p k=> ?_,λa h=> ?_,λa E Q R=> ?_,λb q=> ?_⟩
 ·by_cases q:a=i.length
  ·subst q;rw[cz (au _),Nat.sub_self]at k;rw[cz (by rw[f.l];exact au _),f.l,Nat.sub_self]at p;simp at p k;subst p;subst k;refine⟨s,t,C,rfl,?_⟩;simp only[bh];exact S.mono (au _) (au _) λb I z=>x.2.1 b z λq=>by have:=A b q;omega
  ·have h:a<i.length:=by have:=(List.getElem?_eq_some_iff.1 k).1;simp at this;omega
   rw[cm h]at k;rw[cm (by rw[f.l];exact h)]at p;obtain⟨J,K,O,M,N⟩:=f.e a L U p k;have W:=f.m a h;rw[ao q,ao q];exact⟨J,K,O,M,N.mono (au _) (au _) λb I z=>(x.2.1 b dz λq=>((f.c b q).2 a h ⟨I,z⟩)).trans (G.get b dz)⟩
 ·simp at h;by_cases q:a=i.length
  ·rw[aq q,aq q];omega
  ·rw[ao q,ao q];have:=f.m a dz;omega
 ·simp at R;by_cases q:E=i.length
  ·rw[ao dz,aq q];have:=f.m a dz;omega
  ·rw[ao dz,ao q];exact f.d a E Q dz
 ·rcases x.2.2.1 b q with q|q
  ·refine⟨(f.c b q).1,λa h=> ?_⟩;simp at h;by_cases j:a=i.length
   ·rw[aq j,aq j];have:=A b q;omega
   ·rw[ao j,ao j];exact(f.c b q).2 a dz
  ·refine⟨dz,λa h=> ?_⟩;simp at h;by_cases j:a=i.length
   ·rw[aq j,aq j];omega
   ·rw[ao j,ao j];have:=f.m a dz;omega
def IE{b f:Type}{c:f->b->Prop}{d:b->f}(e:∀x,c (d x) x):∀a:List b,iB c (a.map d) a
 | []=> .nil
 |x::a=> .cons (e x) (IE e a)
def VL(a:iK)(d:List T)(c:H):Prop:=d=[a.t]/\ig 0 c/\Es a.fM [a.fM.t] c/\a.cells.length<=1000000/\a.eg.length<=1000000/\a.dK.length<=1000000/\∀b∈a.dK,b.iT.length<=1000000/\b.j8.length<=1000000/\∀e∈b.j8,e.length<=1000000
structure Cp9(s:iK)(h h':H)(c0 c2 c3 cc cf ct:T)(es:List T)(lo hi:Nat->Nat)(n0:Nat):Prop where
 nb:Nb h h'
 z:h.size<=n0
 zn:n0<=h'.size
 k0:c0.il=true/\c0.cells=[c0]/\c2.il=true/\c2.cells=[c2]/\c3.il=true/\c3.cells=[c3]
 gc:Gr h' cc 1 (gF s.cells)
 gf:Gr h' cf 1 (gF s.eg)
 bc:∀c,dS cc=some c->h.size<=c/\c<n0
 bf:∀c,dS cf=some c->h.size<=c/\c<n0/\dS cc≠some c
 th:TU n0 h' ct es s.dK lo hi
def OL(g:iK)(o:List T)(i:H)(n:T)(j:H):Prop:=∃a b c d e f h l k m,n= .agg [a,dE g.fM.tx,b,c,d,e,f]/\Cp9 g i j a b c d e f h l k m
structure Cq(s:iK)(h:H)(c0 c2 c3 cc cf:T)(q:Nat)(h':H)(k:Nat)(ct:T)(es:List T)(lo hi:Nat->Nat)(ver:Nat):Prop where
 nb:Nb h h'
 b1:h'.get h.size=some (dG 7 0 [s.t])
 b2:h'.get (h.size+1)=some (dG 7 0 [.agg [dF,dE 0,dF,dF,dF,dF,dF]])
 b3:h'.get q=some (dG 7 ver [.agg [c0,dE s.fM.tx,c2,c3,cc,cf,ct]])
 gc:Gr h' cc 1 (gF s.cells)
 gf:Gr h' cf 1 (gF s.eg)
 th:TU (q+1) h' ct es (s.dK.take k) lo hi
def Pt:(jw iK VL OL).Ok Tryz.prog cx 163:=by
 refine jo (tb:=⟨pt [],ht [(154,jw fH Es Jq),(207,jw ICp Ou Jp)]⟩) fa eQ (iR 2097183 [(1,[(2,3),(2,5),(2,7),(6,7),(2,9),(6,9),(2,12),(6,12),(10,12)]),(5,[(1,7)])] Tryz.func163) (λ_ _=>1000005) (λw r d eH=>by obtain⟨rfl,_⟩:=eH;simp[Tryz.f163]) ?_;rintro h _ d ⟨rfl,eP,⟨_,_,p1,p2,p3,p4⟩,fB,fC,fL,eM⟩ L c4;simp at c4;have b6:=eP.hr;simp[Tryz.f163,c4];generalize G:H.cons _ _=F;have eU:ig 0 F:=by rw[<-G];exact(b6.cons _).cons _
 have gz:F.size=d.size+1+1:=by rw[<-G];rfl
 have eO:Nb d F:=by rw[<-G];exact⟨(((Nb.refl b6).cons _).cons _).ok,λa k=>((((Nb.refl b6).cons _).cons _).get a k).trans (gh d a)⟩
 have b9:F.get d.size=some (dG 7 0 [h.t]):=by rw[<-G];simp
 have ca:F.get (d.size+1)=some (dG 7 0 [.agg [dF,dE 0,dF,dF,dF,dF,dF]]):=by rw[<-G];simp
 clear G;refine li HC dA h.fM ⟨rfl,eU,p1,p2,p3,p4⟩ ?_;rintro _ b ⟨s,u,v,fi,rfl,K,E⟩;have gm:=E.ok.sz;have c7:ig 0 b:=⟨E.ok.hp,E.ok.low,aw _⟩;have a1:=(E.get d.size dz).trans b9;have a2:=(E.get (d.size+1) dz).trans ca;obtain⟨Z,W,bn,⟨gg,gj,bp⟩,ea,U,okB⟩:=kQ (cx:=cx) (sz:=1) c7 (x:=sl (h.cells.map (T.int .i64))) (xs:=h.cells.map (T.int .i64)) o6 rfl yV o6 rfl rfl dA dA (by simp[T.cells]) dB;obtain⟨ae,M,Y,⟨gi,gk,al⟩,e9,I,bX⟩:=kQ (cx:=cx) (sz:=1) okB (x:=sl (h.eg.map (T.int .i64))) (xs:=h.eg.map (T.int .i64)) o6 rfl yV o6 rfl rfl dA dA (by simp[T.cells]) dB;have cp:∀a,a<b.size->fc (b.cons (dG 1 0 [])) W a=true:=λa k=>fk ((U a k).trans (by rw[dV,ao dz]));have cL:∀a,a<W.size->fc (W.cons (dG 1 0 [])) M a=true:=λa k=>fk ((I a k).trans (by rw[dV,ao dz]));have dk:=fk (E.get d.size dz);have dn:=cp d.size dz;have eV:=cL d.size dz;have ds:∀a,b.size+1<=a->fc (b.cons (dG 1 0 [])) W a=true:=λa k=>jd (lz _ dB);have dv:∀a,b.size+2<=a->fc (W.cons (dG 1 0 [])) M a=true:=λa k=>jd (lz _ dB);have b8:∀a,b.size<=a->fc F b a=true:=λa k=>jd (lz _ dz);have bk:=(U d.size dz).trans a1;have cb:=(I d.size dz).trans bk;have ce:=(I (d.size+1) dz).trans ((U (d.size+1) dz).trans a2);have fS:=c7.low;have fX:=okB.low;have fY:=bX.low;simp only[aG]at bn Y bp al;rw[ea]at Y al;have e7:(d.size=b.size)=False:=dB;have gn:(d.size+1=b.size)=False:=dB;have e8:(d.size=b.size+1)=False:=dB;have gp:(d.size+1=b.size+1)=False:=dB;have dm:=b8 (b.size+1+1) dz;have eE:s.il=true/\s.cells=[s]/\u.il=true/\u.cells=[u]/\v.il=true/\v.cells=[v]:=⟨K.g0.il,K.g0.cells,K.g2.il,K.g2.cells,K.g3.il,K.g3.cells⟩;obtain⟨eh,eo,er,et,eu,ey⟩:=eE;simp[NR,a1,bn,Y,ea,e9,bk,dk,dn,b8,ds,dv,e7,e8,dm];have gd:d.size+1<b.size+1+1:=dz;have fb:M.size=b.size+1+1:=dz;generalize R:M.cons ⟨7,0,0,true,false,_⟩=Q;have e6:Q.size=b.size+1+1+1:=by rw[<-R];simp[size_cons,fb]
 have eS:ig 0 Q:=by rw[<-R];exact ig.cons ⟨bX.hp,bX.low,aw _⟩ _
 have bs:Q.get (b.size+1+1)=some (dG 7 0 [.agg [dF,dE 0,dF,dF,dF,dF,dF]]):=by
  rw[<-R,dV,aq dz]
 have c6:∀a,a<b.size+1+1->Q.get a=M.get a:=λa k=>by rw[<-R,dV,ao dz]
 generalize S:dY Q _ _=D;have gy:D.size=b.size+1+1+1:=by rw[<-S,fU,e6]
 have dd:ig 0 D:=by rw[<-S];exact eS.put _ _
 have eA:=(show D.get (b.size+1+1)=some (dG 7 1 [.agg [s,dE h.fM.tx,u,v,.arr b.size Z 0 h.cells.length false,.arr (b.size+1) ae 0 h.eg.length false,dF]])by rw[<-S];exact(dP bs _ _).trans (aq rfl));have J:∀a,a<b.size+1+1->D.get a=M.get a:=λa k=>by rw[<-S,dP bs,ao dz];exact c6 a k
 clear S R;have bu:Gr D (.arr b.size Z 0 h.cells.length false) 1 (gF h.cells):=by
  have:=Gr.new (((J b.size dz).trans (I b.size dz)).trans bp);simpa using this
 have bz:Gr D (.arr (b.size+1) ae 0 h.eg.length false) 1 (gF h.eg):=by
  have:=Gr.new ((J (b.size+1) dz).trans al);simpa using this
 have eN:Nb d D:=⟨⟨dd.hp,dd.low,dz⟩,λa k=>(J a dz).trans ((I a dz).trans ((U a dz).trans ((E.get a dz).trans (eO.get a k))))⟩;have eb:=(J d.size dz).trans cb;have ec:=(J (d.size+1) dz).trans ce;have X:∀a,dS (.arr b.size Z 0 h.cells.length false)=some a->a=b.size:=λa i=>by simpa using i.symm
 have N:∀a,dS (.arr (b.size+1) ae 0 h.eg.length false)=some a->a=b.size+1:=λa i=>by simpa using i.symm
 generalize T.arr b.size Z 0 h.cells.length false=B at*
 generalize T.arr (b.size+1) ae 0 h.eg.length false=C at*
 have a6:∀a,dS B=some a->d.size<=a/\a<b.size+1+1+1:=λa i=>by have:=X a i;omega
 have a7:∀a,dS C=some a->d.size<=a/\a<b.size+1+1+1/\dS B≠some a:=λa i=>⟨by have:=N a i;omega,by have:=N a i;omega,λb7=>by have:=X a b7;have:=N a i;omega⟩;have de:∀a,dS B=some a->a≠b.size+1+1/\a≠d.size+1:=λa i=>by have:=X a i;omega
 have di:∀a,dS C=some a->a≠b.size+1+1/\a≠d.size+1:=λa i=>by have:=N a i;omega
 clear X N bn Y bp al dk dn eV b8 ds dv dm U I cp cL bk cb ce a1 a2 b9 ca J c6 bs;generalize b.size+1+1=i at*
 have fl:=bu.il;have fo:=bu.cells;have fs:=bz.il;have fv:=bz.cells;refine nz h.dK.length (λo L h'=>∃p P aX aE V,Cq h d s u v B C i h' o p P aX aE V/\dH L 1 (.ptr d.size 0 0 0)/\dH L 2 (.ptr (d.size+1) 0 0 0)/\dH L 3 (.ptr i 0 0 0)/\dH L 4 (dE o)) ?_ dz (aw _) ?_
 ·rintro o L h' fE ⟨p,P,aX,aE,V,f,bB,cX,av,bC⟩;simp[bB,bC,f.b1];refine ee (λbH=> ?_) (λbH=> ?_)
  ·have bN:o<h.dK.length:=by simpa using bH
   obtain⟨m,aN⟩:∃m,h.dK[o]? =some m:=⟨_,az bN⟩;have eF:h.dK[o]=m:=by rw[az bN]at aN;simpa using aN
   have bT:=eM m (ax aN);simp[bB,av,bC,f.b1,f.b3,bN,eF];have eR:ig 0 h':=⟨f.nb.ok.hp,f.nb.ok.low,aw _⟩;refine li HD dA ⟨m,sl (gF m.iT),sl (m.j8.map ZR),m.j8.map ZR⟩ ⟨by rfl,⟨.inl rfl,.inl rfl,?_,?_⟩,eR,bT.1,bT.2.1,bT.2.2⟩ ?_
   ·exact IE (λl=> .inl rfl) _
   ·rintro e a (rfl|rfl|he) x
    ·simp at x
    ·simp at x
    ·obtain⟨l,_,rfl⟩:=List.mem_map.1 he;simp[ZR]at x
   rintro _ ap ⟨r,A,fe,rfl,e5,q⟩;have b7:i+1<=h'.size:=by have:=H.ew f.b3;omega
   have p3:=(q.get i dz).trans f.b3;have eB:Gr ap p 4 P:=f.th.g.mono λa x=>q.get a (by obtain⟨_,_,_,_,g,_⟩:=f.th.g.box x;exact H.ew g);obtain⟨a8,aA,ef,z⟩:=eB.wh (cx:=cx) ⟨q.ok.hp,q.ok.low,aw _⟩ Qi rfl Lt rfl dA (x:=Bn m r A) rfl (by have:=f.th.l;simp at this;simp;omega);have e0:=fk (q.get i dz);have eX:∀a,a<ap.size->dS p≠some a->fc (ap.cons (dG 4 0 [Bn m r A])) aA a=true:=λa k bS=>fk ((z.2.1 a k bS).trans (by rw[dV,ao dz]));have bi:dS p≠some i:=λx=>by have:=(f.th.c i x).1;omega
   have eW:=eX i (by have:=q.ok.sz;omega) bi;have p4:=(z.2.1 i (by have:=q.ok.sz;omega) bi).trans p3;have eC:(Bn m r A).il=true/\(Bn m r A).cells=[dE m.pC,r,A,dE m.dO]:=by simp[Bn,T.cells]
   have fA:Bn m r A= .agg [dE m.pC,r,A,dE m.dO]:=rfl;simp[av,bC,ef,e0,eC,eW,p4,z.1.il,z.1.cells,dZ];rw[ik dz dz];simp;refine⟨o+1,dz,dz,⟨a8,P++[Bn m r A],λw=>if w=(h.dK.take o).length then h'.size else aX w,λw=>if w=(h.dK.take o).length then ap.size else aE w,V+1,?_⟩,bB,cX,av,dA⟩;have gv:=z.2.2.2.sz;have gw:=q.ok.sz;have gq:∀a,a<h'.size->a≠i->dS p≠some a->(dY aA i (dG 7 (V+1) [.agg [s,dE h.fM.tx,u,v,B,C,a8]])).get a=h'.get a:=λa k eI bS=>by
    rw[dP p4,ao eI,z.2.1 a dz bS,q.get a k]
   have O:∀a,a<=i->dS p≠some a:=λa k x=>by have:=(f.th.c a x).1;omega
   have c9:ig 0 aA:=⟨z.2.2.2.hp,z.2.2.2.low,aw _⟩;refine⟨⟨⟨(c9.put _ _).hp,(c9.put _ _).low,by rw[fU];have:=f.nb.ok.sz;omega⟩,λa k=>(gq a dz dz (O a dz)).trans (f.nb.get a k)⟩,
    (gq _ dz dz (O _ dz)).trans f.b1,(gq _ dz dz (O _ dz)).trans f.b2,(dP p4 _ _).trans (aq rfl),
    f.gc.mono λa x=>gq a (by have:=a6 a x;omega) (de a x).1 (O a (by have:=a6 a x;omega)),f.gf.mono λa x=>gq a (by have:=a7 a x;omega) (di a x).1 (O a (by have:=a7 a x;omega)),?_⟩
   have e4:=(f.th.app b7 q e5 z).mono (h':=dY aA i (dG 7 (V+1) [.agg [s,dE h.fM.tx,u,v,B,C,a8]])) (by rw[fU];exact au _) λa x _=>by rw[dP p4,ao dz]
   have eL:h.dK.take (o+1)=h.dK.take o++[m]:=by rw[List.take_add_one,aN];rfl
   rw[eL];exact e4
  ·have eD:o=h.dK.length:=by
    have:¬o<h.dK.length:=by simpa using bH
    omega
   subst eD;have c1:=f.th;rw[aO]at c1;have bi:∀a,dS p=some a->i+1<=a:=λa x=>(f.th.c a x).1;simp[cX,av,f.b2,f.b3,dZ,dP f.b2];have an:∀a,a≠d.size+1->(lO d (dY h' (d.size+1) (dG 7 1 [.agg [s,dE h.fM.tx,u,v,B,C,p]]))).get a=h'.get a:=λa k=>by rw[fO,dP f.b2,ao k]
   refine⟨s,u,v,B,C,p,P,aX,aE,i+1,rfl,⟨⟨((ig.put (n:=0) ⟨f.nb.ok.hp,f.nb.ok.low,aw _⟩ _ _).out d).hp,((ig.put (n:=0) ⟨f.nb.ok.hp,f.nb.ok.low,aw _⟩ _ _).out d).low,by rw[wB,fU];exact f.nb.ok.sz⟩,λa k=>(an a dz).trans (f.nb.get a k)⟩,dz,by rw[wB,fU];exact H.ew f.b3,⟨eh,eo,er,et,eu,ey⟩,
    f.gc.mono λa x=>an a (de a x).2,f.gf.mono λa x=>an a (di a x).2,a6,a7,c1.mono (by rw[wB,fU];exact au _) λa x _=>an a dz⟩
 ·refine⟨dF,[],λ_=>0,λ_=>0,1,⟨eN,eb,ec,eA,bu,bz,⟨Gr.nil _ _,rfl,λw e m x=>by simp at x,λw x=>by simp at x,λw j x y=>by simp at y,λa x=>by simp at x⟩⟩,dA⟩
end
end Go.Proofs.YtmaeadedikngoaaGreatDoor
