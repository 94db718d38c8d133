/- Texts W09a to W09d. -/
import Derived.Test.YtmaeadedikngoaaGreatDoorA31
set_option linter.unusedVariables false
set_option linter.unusedSimpArgs false
set_option linter.defProp false
set_option maxRecDepth 100000
set_option maxHeartbeats 8000000
namespace Go.Proofs.YtmaeadedikngoaaGreatDoor
noncomputable section
open Go Go.TI
attribute [-simp] List.map_take List.map_drop List.map_append fj eG dY Bool.not_or Bool.not_and
attribute [simp] fh eJ
attribute [-simp] size_cons
def vS:List Int:=[3,3,4,4,5,6,7,8,9,10,11,12,13,14,15,16,18,19,20,21,22,23,2]
def mc(a:Int):Int:=if a<6\/28<a then 0 else vS.getD (a-6).toNat 0
def vz:f7:=⟨Int,λa=>[dw a],λa=>True,λa=> dw (mc a),λa c b=>by simp at b;rw[b]⟩
def NG:vz.Ok Tryz.prog cx 200:=by
 refine gH (tb:=⟨pt [],ht []⟩) ei eg (iL 1037 [] Tryz.func200) (λl=>1) (by simp[vz]) (by simp[vz,Tryz.f200]) ?_;rintro(b:Int) m n f;simp[vz]at f|-;by_cases h:b<6\/28<b
 ·have d:mc b=0:=by unfold mc;rw[aq h]
  rcases h with h|h<;>simp[Tryz.f200,f,h,d]
 ·obtain⟨a,i⟩:∃a:Nat,b=(a:Int)+6:=⟨(b-6).toNat,dj⟩;subst i;have g:a<23:=dj;obtain⟨e,d⟩:∃e,vS[a]? =some e:=⟨_,az (show a<vS.length from g)⟩;have c:(vS.map (T.int .i64))[a]? =some (dw e):=by rw[aQ,d];rfl
  have j:mc ((a:Int)+6)=e:=by
   unfold mc;rw[ao h,show((a:Int)+6-6).toNat=a by omega];simp[List.getD,d]
  have k:binop .sub (dw ((a:Int)+6)) (dw 6)=some (dw (a:Int)):=by rw[kL dj dj];congr 2;omega
  simp only[vS,aR,cm]at c;obtain⟨_,c⟩:=List.getElem?_eq_some_iff.1 c;simp[Tryz.f200,f,show¬(a:Int)+6<6 by omega,show¬(28:Int)<(a:Int)+6 by omega,k,g,c,j]
def RB{b:fq}(ht:b.p 200=some vz)(a:Int):rl Tryz.prog cx b 200 [dw a]=some (dw (mc a)):=gF ht NG a trivial
structure VL(c:jv)(s:iu):Prop where
 v:OP c
 f:ml c.ez s.fx=true
 cl:s.cells.length=c.ez.cells.length
 fu:s.dT.length=c.ez.dT.length
 th:s.dB.length=c.dB.length
 t:∀(i:Nat) (t:dZ) (x:fM),s.dB[i]? =some t->c.dB[i]? =some x->0<=t.pC/\t.pC<x.iS.length/\t.iA.length=x.iA/\t.jN.length=x.iA
def Hh{a:jv}(b:OP a):a.ez.fV.length<=2/\a.dB.length<=4:=by
 have:=b.1;unfold jK rG at this;simp only[aB,aO]at this;have c:=b.2.1;omega
def Gq:mU Tryz.prog cx 199 (λh:jv×iu=>[h.1.t,h.2.t]) (λh=>∀a∈h.1.dB,a.iS.length<=10000001) (λh=>Lx (VL h.1 h.2)):=by
 refine iZ (tb:=⟨pt [(74,vL.jb),(111,p9)],ht []⟩) ei eg (iL 158456325028530997355645763711 [] Tryz.func199) (λ_=>100) (λh b g=>by simp at g;exact aP (jv.inj g.1) (iu.inj g.2)) dp (by simp[Tryz.f199]) ?_;rintro⟨f,l⟩ x m F;replace x:∀a∈f.dB,a.iS.length<=10000001:=x;simp at F;obtain⟨D,E⟩:=F;obtain⟨_,⟨b,rfl,M⟩,C⟩:=vL.use f x;cases b with
 |false=>simp[Tryz.f199,D,E,C]
 |true=>
  have G:=M rfl;obtain⟨W,X⟩:=Hh G;simp[Tryz.f199,D,E,C,uk,show f.ez.fV.length<=1099511627776 by omega];refine dU (λB=> ?_) (λB=> ?_)
  ·simp
  simp only[bI,bU,aO]at B;obtain⟨⟨⟨Q,T⟩,U⟩,V⟩:=B;simp;generalize q:(hE.cons _).cons _=w;have P:gu 2 w:=by rw[<-q];exact⟨dp,dp,dp⟩
  have j:w.get 0=some (dy 7 0 [f.t]):=by rw[<-q];simp
  have n:w.get 1=some (dy 7 0 [l.t]):=by rw[<-q];simp
  clear q;refine fc f.dB.length dj (λe m g=>gu 2 g/\g.get 0=some (dy 7 0 [f.t])/\g.get 1=some (dy 7 0 [l.t])/\(∀(d:Nat) (c:dZ) (a:fM),d<e->l.dB[d]? =some c->f.dB[d]? =some a->0<=c.pC/\c.pC<a.iS.length/\c.iA.length=a.iA/\c.jN.length=a.iA)/\dz m 2 (.ptr 0 0 0 0)/\dz m 3 (.ptr 1 0 0 0)/\dz m 5 (dw e)) ?_ ?_ dj ?_
  ·rintro e m g z L ⟨i,j,n,A,o,v,p⟩;have I:=i.ne (b:=0) dj;have O:=i.ne (b:=1) dj;have y:e<l.dB.length:=dj;obtain⟨c,ht⟩:∃c,l.dB[e]? =some c:=⟨_,az y⟩;obtain⟨a,k⟩:∃a,f.dB[e]? =some a:=⟨_,az z⟩;have J:l.dB[e]=c:=by rw[az y]at ht;simpa using ht
   have K:f.dB[e]=a:=by rw[az z]at k;simpa using k
   simp[j,n,o,v,p,z,y,I,i.low,J,K];refine dU (λu=> ?_) (λu=> ?_)
   ·simp[i.hp]
   simp only[bI,bU,aO,bj]at u;simp[o,v,p,L];refine⟨i.cons _,by simpa[I]using j,by simpa[O]using n,λd R S N r s=> ?_⟩;rcases aD d e with H|H
   ·exact A d R S H r s
   ·have:d=e:=dj;subst this;rw[ht]at r;rw[k]at s;simp only[ar]at r s;subst r s;exact⟨dj,dj,u.1.2,u.2⟩
  ·rintro m g ⟨i,j,n,A,o,v,p⟩;simp[j,o,p,i.hp];exact⟨G,Q,dj,dj,dj,λd c a ht k=>A d c a (List.getElem?_eq_some_iff.1 k).1 ht k⟩
  ·exact⟨P,j,n,λd c a N=>by omega,dp⟩
def Gp:mU Tryz.prog cx 232 (λa:Int×Int=>[dw a.1,dw a.2]) (λa=>True) (λ_=>D0):=by
 refine iZ (tb:=⟨pt [],ht []⟩) ei eg (iL 4275 [] Tryz.func232) (λ_=>10) (λa i b=>by simp at b;exact aP b.1 b.2) dp (by simp[Tryz.f232]) ?_;rintro⟨k,f⟩ _ j d;simp at d;obtain⟨g,c⟩:=d;by_cases e:f<1
 ·simp[Tryz.f232,c,e]
 ·simp[Tryz.f232,g,c,e,CJ (show¬f=0 by omega)];refine dU (λh=> ?_) (λh=> ?_)<;>simp[c,nD]
def VG(a:fF)(b:dZ):Prop:=(a.op=7\/a.op=9)->iP a.c b.iA.length=true
def Bw:mU Tryz.prog cx 201 (λb:fF×dZ=>[b.1.t,b.2.t]) (λb=>VG b.1 b.2) (λ_=>D0):=by
 refine iZ (tb:=⟨pt [(232,Gp.jb)],ht []⟩) ei eg (iL 1099578740959 [(6,[(1,10)]),(8,[(1,10)])] Tryz.func201) (λ_=>10) (λb v i=>by simp at i;exact aP (fF.inj i.1) (dZ.inj i.2)) dp (by simp[Tryz.f201]) ?_;rintro⟨a,u⟩ d w o;replace d:VG a u:=d;simp at o;obtain⟨j,k⟩:=o;obtain⟨r,f⟩:=Gp.fnI (γ:=Int×Int) id (λ_=>trivial);have f:∀{tb:fq},tb.p 232=some (wR Tryz.prog cx 232 (λb:Int×Int=>[dw b.1,dw b.2]) (λb=>True) (λ_=>D0))->∀h g,rl Tryz.prog cx tb 232 [dw h,dw g]=some (dw (r (h,g))):=λht h g=>f ht (h,g);cases c:decide (a.op=7)with
 |true=>
  obtain⟨s,hr,_⟩:=im (d (.inl (by simpa using c)));have n:=ed (ff.1 (d (.inl (by simpa using c)))).1;have m:decide (a.op=6)=false:=by
   have:a.op=7:=by simpa using c
   exact aM dj
  have l:decide (a.op=27)=false:=by
   have:a.op=7:=by simpa using c
   exact aM dj
  simp[Tryz.f201,j,k,c,m,l,hr,n,f,nD]
 |false=>
  cases e:decide (a.op=9)with
  |true=>
   obtain⟨s,hr,_⟩:=im (d (.inr (by simpa using e)));have n:=ed (ff.1 (d (.inr (by simpa using e)))).1;have m:decide (a.op=6)=false:=by
    have:a.op=9:=by simpa using e
    exact aM dj
   have l:decide (a.op=27)=false:=by
    have:a.op=9:=by simpa using e
    exact aM dj
   simp[Tryz.f201,j,k,c,e,m,l,hr,n,f,nD]
  |false=>
   simp[Tryz.f201,j,k]
   repeat' (refine dU (λq=> ?_) (λq=> ?_)<;>simp[q,c,e])
def Ku{a:H}(h:gu 0 a)(b:List Int)(hl:b.length<=1000000):∃f c,iK cx a 38 38 dx (sl (ge b))=some (.val f c)/\Gr c f 1 (ge b)/\Nb a c/\(∀d,dL f=some d->a.size<=d)/\(c=a\/c=a.cons ⟨1,0,0,false,false,ge b⟩):=by
 unfold iK pN mY;simp only[kG,dO,show pX.u= .slice 3 from rfl,nM,On];cases b with
 |nil=>exact⟨_,_,rfl,Gr.nil _ _,Nb.refl h,λd e=>by simp at e,.inl rfl⟩
 |cons g b=>
  refine⟨.arr a.size 0 0 (ge (g::b)).length false,a.cons ⟨1,0,0,false,false,ge (g::b)⟩,?_,Gr.new (ep:=0) (ver:=0) (ex:=false) dp,(Nb.refl h).cons _,λd e=>by simp at e;omega,.inr rfl⟩;rw[m8 (by simp[T.cells]),gX];show jl (a.iU 1 8 [] (ge (g::b)))=_;rw[om (by simp[T.cells]) du (by simp at hl|-;omega)];rfl
structure PeP(c:jv)(s:iu)(th:Int)(e:dX)(t:dZ)(x:fM)(i:fF):Prop where
 f:VL c s
 n:iP th c.dB.length=true
 ht:s.dB[th.toNat]? =some t
 hx:c.dB[th.toNat]? =some x
 hi:x.iS[t.pC.toNat]? =some i
 k:e.kind=1\/e.kind=17\/(e.kind=mc i.op/\e.kind≠0)
def X8(a:Nat)(c:iu):Prop:=∀d∈c.dB,∀b∈d.jN,b.length<=a
def evN(a:Nat)(b:dX):Prop:=b.mf.length<=a/\b.uz.length<=a
def Ua(c:jv)(f:iu)(h:Int)(e:T):Prop:=∃(a:dX) (b:Bool),e= .tuple [a.t,.bool b]/\evN 1000000 a/\(b=true->∃g i d,PeP c f h a g i d)
def GR{f:jv}{m:iu}(g:VL f m){d:Int}(h:iP d f.dB.length=true):∃b a c,jT d=some d.toNat/\m.dB[d.toNat]? =some b/\f.dB[d.toNat]? =some a/\jT b.pC=some b.pC.toNat/\a.iS[b.pC.toNat]? =some c/\b.iA.length=a.iA/\b.jN.length=a.iA/\(∀e∈iC c,0<=e/\e<a.iA)/\a.iA<=32:=by
 obtain⟨a,i,_⟩:=im h;have j:=h;rw[<-g.th]at j;obtain⟨b,ht,_⟩:=im j;obtain⟨p1,p2,p3,p4⟩:=g.t _ _ _ ht i;obtain⟨c,k⟩:∃c,a.iS[b.pC.toNat]? =some c:=⟨_,az dj⟩;have l:=g.v.2.2 a (ax i);exact⟨b,a,c,ed (ff.1 h).1,ht,i,ed p1,k,p3,p4,λe hr=>l.2.2 c (ax k) e hr,l.2.1⟩
structure PJ(th:Int)(t:dZ)(i:fF)(o:Int)(h':H)(dv:T)(d:List Int)(ver:Nat):Prop where
 ok:gu 6 h'
 b2:h'.get 2=some (dy 7 0 [.agg [dw 0,dw 0,dw 0,dw 0,dw 0,dx,dx]])
 b3:h'.get 3=some (dy 4 1 [t.t])
 b4:h'.get 4=some (dy 6 1 [i.t])
 b5:h'.get 5=some (dy 7 ver [.agg [dw th,dw (mc i.op),dw o,dw 0,dw i.iO,dv,dx]])
 g:Gr h' dv 1 (ge d)
 l:d.length<=1000000
 bx:∀c,dL dv=some c->6<=c
def PJ.app{p:Int}{t:dZ}{j:fF}{o:Int}{h:H}{q:Nat}(e:PJ p t j o h dx [] q)(k:List Int)(hl:k.length<=1000000):∃c b,iK cx h 38 38 dx (sl (ge k))=some (.val c b)/\c.gD=true/\c.cells=[c]/\(∀a,a<6->b.get a=h.get a)/\gu 6 b/\
 ∀d,d=((dy 7 (q+1) [.agg [dw p,dw (mc j.op),dw o,dw 0,dw j.iO,c,dx]]):iJ)->PJ p t j o (dQ b 5 d) c k (q+1):=by
 have w:=e.ok.sz;obtain⟨c,b,u,m,l,r,_⟩:=Ku ⟨e.ok.hp,e.ok.low,aw _⟩ k hl;have f:∀a,a<6->b.get a=h.get a:=λa i=>l.get a dj;have s:gu 6 b:=⟨l.ok.hp,l.ok.low,aS w l.ok.sz⟩;have v:=(f 5 dj).trans e.b5;have g:∀d a,(dQ b 5 d).get a=if a=5 then some d else b.get a:=λd a=>dE v d a;refine⟨c,b,u,m.gD,m.cells,f,s,?_⟩;rintro d rfl;exact⟨s.put _ _,by rw[g,ao dj];exact(f 2 dj).trans e.b2,by rw[g,ao dj];exact(f 3 dj).trans e.b3,by rw[g,ao dj];exact(f 4 dj).trans e.b4,by rw[g,aq rfl],m.mono λa i=>by rw[g,ao (by have:=r a i;omega)],hl,λa i=>by have:=r a i;omega⟩
def yV:mU Tryz.prog cx 149 (λn:jv×iu×Int=>[n.1.t,n.2.1.t,dw n.2.2]) (λn=>(∀x∈n.1.dB,x.iS.length<=10000001)/\X8 1000000 n.2.1) (λn=>Ua n.1 n.2.1 n.2.2):=by
 refine iZ (tb:=⟨pt [(199,Gq.jb),(200,vz),(201,Bw.jb)],ht []⟩) ei eg (iL 10633824283312870803151638865622599647 [(11,[(2,8),(4,8),(6,8)]),(14,[(2,3),(2,4)])] Tryz.func149) (λ_=>100) (λn b S=>by simp at S;exact aP (jv.inj S.1) (aP (iu.inj S.2.1) S.2.2)) dp (by simp[Tryz.f149]) ?_;rintro⟨d,Y,p⟩ ⟨bz,bH⟩ J bs;simp only at bz bH;simp at bs;obtain⟨cL,aE,G⟩:=bs;obtain⟨_,⟨b,rfl,bu⟩,bi⟩:=Gq.use (d,Y) bz;simp only at bu bi;have aN:Ua d Y p (.tuple [dX.t ⟨0,0,0,0,0,[],[]⟩,.bool false]):=⟨_,_,rfl,⟨dp,dp⟩,dp⟩;simp[Tryz.f149,cL,aE,G,bi];refine dU (λaX=> ?_) (λaX=> ?_)
 ·simp;exact aN
 simp only[bI,bU,bj]at aX;obtain⟨⟨rfl,b8⟩,ea⟩:=aX;have U:=bu rfl;have a6:iP p d.dB.length=true:=ff.2 ⟨dj,dj⟩;obtain⟨w,x,e,bN,a7,bS,dd,bT,dm,dn,b6,ds⟩:=GR U a6;have c7:iP p Y.fx.dB.length=true:=by
  rw[(nK U.f).2.2,<-U.v.2.1];exact a6
 obtain⟨u,ca,_⟩:=im c7;simp[G,bN,a7,bS,dd,bT,ca];have W:∀y:dX,evN 1000000 y->(y.kind=1\/y.kind=17\/(y.kind=mc e.op/\y.kind≠0))->Ua d Y p (.tuple [y.t,.bool true]):=λy aE G=>⟨y,true,rfl,aE,λ_=>⟨w,x,e,U,a6,a7,bS,bT,G⟩⟩;refine dU (λb8=> ?_) (λb8=> ?_)
 ·simp[G];exact W ⟨p,1,-1,0,-1,[],[]⟩ ⟨dp,dp⟩ (.inl rfl)
 cases an:decide (u.iv=4)with
 |true=>
  simp[G,an,bN,ca];exact W ⟨p,17,u.cond,0,e.iO,[],[]⟩ ⟨dp,dp⟩ (.inr (.inl rfl))
 |false=>
 cases a8:decide (u.iv=2)with
 |false=>
  simp[an,a8];exact aN
 |true=>
  have bC:∀r∈iC e,iP r w.jN.length=true:=λr hr=>by have:=b6 r hr;exact ff.2 ⟨dj,dj⟩
  have c4:VG e w:=λk=>by
   have hr:e.c∈iC e:=by unfold iC;rcases k with k|k<;>simp[k]
   have:=b6 _ hr;exact ff.2 ⟨dj,dj⟩
  obtain⟨_,⟨L,rfl⟩,bk⟩:=Bw.use (e,w) c4;simp only at bk;simp[an,a8,RB,bk];refine dU (λE=> ?_) (λE=> ?_)
  ·simp;exact aN
  have bB:mc e.op≠0:=by simpa using E
  simp;generalize I:H.cons _ _=C;have X:gu 6 C:=by rw[<-I];exact⟨dp,dp,dp⟩
  have cb:C.get 2=some (dy 7 0 [.agg [dw 0,dw 0,dw 0,dw 0,dw 0,dx,dx]]):=by rw[<-I];simp
  have O:C.get 3=some (dy 4 1 [w.t]):=by rw[<-I];simp
  have P:C.get 4=some (dy 6 1 [e.t]):=by rw[<-I];simp
  have s:∃al,C.get 5=some (dy 7 al [.agg [dw p,dw (mc e.op),dw L,dw 0,dw e.iO,dx,dx]]):=⟨3,by rw[<-I];simp⟩;clear I;obtain⟨di,s⟩:=s;have Z:∀{r:Int},r∈iC e->∃j,jT r=some r.toNat/\w.jN[r.toNat]? =some j/\j.length<=1000000:=λ{r} hr=>by
   obtain⟨j,hl,_⟩:=im (bC r hr);exact⟨j,ed (ff.1 (bC r hr)).1,hl,bH w (ax a7) j (ax hl)⟩
  have dv:gu 0 C:=⟨X.hp,X.low,aw _⟩;have ec:=X.sz;have V:PJ p w e L C dx [] di:=⟨X,cb,O,P,s,Gr.nil _ _,dp,λd E=>by simp at E⟩;refine lh (λJ h'=>∃R F al,PJ p w e L h' R F al/\dz J 6 (.ptr 2 0 0 0)/\dz J 8 (.ptr 3 0 0 0)/\dz J 9 (.ptr 4 0 0 0)/\dz J 10 (.ptr 5 0 0 0)) (λb9=> ?_) (λb9=> ?_) ?_
  ·have T:e.op=10:=by simpa using b9
   obtain⟨j,l1,l2,l3⟩:=Z (r:=e.a) (by unfold iC;simp[T]);obtain⟨ae,o,B,N,M,z,b7,fin⟩:=V.app j l3;have sv:=λd (m:d<6)=>eZ (z d m);have A:=(z 5 dj).trans s;simp[O,P,s,l1,l2,B,N,M,A,dP];exact⟨_,_,_,fin _ rfl⟩
  ·cases Q:decide (e.op=7)with
   |true=>
    obtain⟨j,l1,l2,l3⟩:=Z (r:=e.c) (by unfold iC;simp[show e.op=7 by simpa using Q]);obtain⟨ae,o,B,N,M,z,b7,fin⟩:=V.app j l3;have sv:=λd (m:d<6)=>eZ (z d m);have A:=(z 5 dj).trans s;simp[Q,O,P,s,l1,l2,B,N,M,A,dP];exact⟨_,_,_,fin _ rfl⟩
   |false=>
   cases ap:decide (e.op=9)with
   |true=>
    obtain⟨j,l1,l2,l3⟩:=Z (r:=e.c) (by unfold iC;simp[show e.op=9 by simpa using ap]);obtain⟨ae,o,B,N,M,z,b7,fin⟩:=V.app j l3;have sv:=λd (m:d<6)=>eZ (z d m);have A:=(z 5 dj).trans s;simp[Q,ap,O,P,s,l1,l2,B,N,M,A,dP];exact⟨_,_,_,fin _ rfl⟩
   |false=>
    simp[Q,ap];exact⟨_,_,_,V⟩
  rintro J h' ⟨R,F,al,i,bl,c1,bn,T⟩;have eb:=i.ok.sz;have de:gu 0 h':=⟨i.ok.hp,i.ok.low,aw _⟩;simp[bn,i.b4];refine dU (λE=> ?_) (λE=> ?_)
  ·have c6:e.op=8\/e.op=9\/e.op=26:=by
    simp only[bP,aO]at E;omega
   obtain⟨j,l1,l2,l3⟩:=Z (r:=e.b) (by unfold iC;rcases c6 with k|k|k<;>simp[k]);obtain⟨ae,o,B,g,D,ce,_⟩:=Ku de j l3;have sv:=λd (m:d<6)=>eZ (D.get d dj);have dk:=(D.get 2 dj).trans i.b2;have A:=(D.get 5 dj).trans i.b5;have K:∀h d,(dQ o 5 h).get d=if d=5 then some h else o.get d:=λh d=>dE A h d;have aA:∀h q d,(dQ (dQ o 5 h) 2 q).get d=if d=2 then some q else if d=5 then some h else o.get d:=λh q d=>by
    rw[md (by simp;exact D.ok.hp) (by have:=D.ok.sz;simp;omega),K]
   have av:∀h q,TI.fz (dQ (dQ o 5 h) 2 q) R=some (sl (ge F)):=λh q=>(i.g.mono (h':=dQ (dQ o 5 h) 2 q) λd m=>by
    obtain⟨_,_,_,_,c9,_⟩:=i.g.box m;have:=i.bx d m;rw[aA,ao dj,ao dj];exact D.get d (H.ej c9)).fz dp
   have cp:∀h q,TI.fz (dQ (dQ o 5 h) 2 q) ae=some (sl (ge j)):=λh q=>(g.mono (h':=dQ (dQ o 5 h) 2 q) λd m=>by
    have:=ce d m;rw[aA,ao dj,ao dj]).fz dp
   simp[bl,c1,bn,T,i.b3,i.b4,i.b5,l1,l2,B,g.gD,g.cells,dk,A,K,aA,av,cp,dP,D.ok.hp];exact W ⟨p,mc e.op,L,0,e.iO,F,j⟩ ⟨i.l,l3⟩ (.inr (.inr ⟨rfl,bB⟩))
  ·have K:∀h d,(dQ h' 2 h).get d=if d=2 then some h else h'.get d:=λh d=>dE i.b2 h d;have av:∀h,TI.fz (dQ h' 2 h) R=some (sl (ge F)):=λh=>(i.g.mono (h':=dQ h' 2 h) λd m=>by
    have:=i.bx d m;rw[K,ao dj]).fz dp
   simp[bl,T,i.b2,i.b5,K,av,dP,i.ok.hp];exact W ⟨p,mc e.op,L,0,e.iO,F,[]⟩ ⟨i.l,dp⟩ (.inr (.inr ⟨rfl,bB⟩))
structure RY(n0:Nat)(h':H)(ct:T)(es:List T)(ts:List dZ)(lo hi:Nat->Nat):Prop where
 g:Gr h' ct 4 es
 l:es.length=ts.length
 e:∀(i:Nat) (e:T) (t:dZ),es[i]? =some e->ts[i]? =some t->∃a b el,e=AE t a b/\Al (lo i) (hi i) h' a b el t
 m:∀i,i<ts.length->n0<=lo i/\hi i<=h'.size
 d:∀i j,i<j->j<ts.length->hi i<=lo j
 c:∀c,dL ct=some c->n0<=c/\∀i,i<ts.length->¬(lo i<=c/\c<hi i)
def RY.mono{j:Nat}{f h':H}{k:T}{n:List T}{s:List dZ}{q h:Nat->Nat}(b:RY j f k n s q h)(C:f.size<=h'.size)(p:∀a,j<=a->a<f.size->h'.get a=f.get a):RY j h' k n s q h:=
 ⟨b.g.mono λa r=>p a (b.c a r).1 (by obtain⟨_,_,_,_,z,_⟩:=b.g.box r;exact H.ej z),b.l,λi v B A o=>by
   obtain⟨t,u,y,w,x⟩:=b.e i v B A o;have D:=b.m i (by have:=(List.getElem?_eq_some_iff.1 o).1;exact this);exact⟨t,u,y,w,x.mono (au _) (au _) λa E F=>p a dj dj⟩,λi h=>by have:=b.m i h;omega,b.d,b.c⟩
def RY.app{y:Nat}{o r D:H}{v B:T}{w:List T}{i:List dZ}{F h:Nat->Nat}(f:RY y o v w i F h)(V:y<=o.size)(G:Nb o r){s t:T}{C:List T}{u:dZ}(S:Al o.size r.size r s t C u)(x:Xt r v 4 (w++[AE u s t]) B D):
 RY y D B (w++[AE u s t]) (i++[u]) (λa=>if a=i.length then o.size else F a) (λa=>if a=i.length then r.size else h a):=by
 have X:=G.ok.sz;have Y:=x.2.2.2.sz;have A:∀b,dL v=some b->b<o.size:=λb q=>by obtain⟨_,_,_,_,P,_⟩:=f.g.box q;exact H.ej P
 refine⟨x.1,by simp[f.l],λa L U p k=> ?_,λa h=> ?_,λa E Q R=> ?_,λb q=> ?_⟩
 ·by_cases q:a=i.length
  ·subst q;rw[cu (au _),Nat.sub_self]at k;rw[cu (by rw[f.l];exact au _),f.l,Nat.sub_self]at p;simp at p k;subst p;subst k;refine⟨s,t,C,rfl,?_⟩;simp only[bo];exact S.mono (au _) (au _) λb I z=>x.2.1 b z λq=>by have:=A b q;omega
  ·have h:a<i.length:=by have:=(List.getElem?_eq_some_iff.1 k).1;simp at this;omega
   rw[co h]at k;rw[co (by rw[f.l];exact h)]at p;obtain⟨J,K,O,M,N⟩:=f.e a L U p k;have W:=f.m a h;rw[ao q,ao q];exact⟨J,K,O,M,N.mono (au _) (au _) λb I z=>(x.2.1 b dj λq=>((f.c b q).2 a h ⟨I,z⟩)).trans (G.get b dj)⟩
 ·simp at h;by_cases q:a=i.length
  ·rw[aq q,aq q];omega
  ·rw[ao q,ao q];have:=f.m a dj;omega
 ·simp at R;by_cases q:E=i.length
  ·rw[ao dj,aq q];have:=f.m a dj;omega
  ·rw[ao dj,ao q];exact f.d a E Q dj
 ·rcases x.2.2.1 b q with q|q
  ·refine⟨(f.c b q).1,λa h=> ?_⟩;simp at h;by_cases j:a=i.length
   ·rw[aq j,aq j];have:=A b q;omega
   ·rw[ao j,ao j];exact(f.c b q).2 a dj
  ·refine⟨dj,λa h=> ?_⟩;simp at h;by_cases j:a=i.length
   ·rw[aq j,aq j];omega
   ·rw[ao j,ao j];have:=f.m a dj;omega
def Hx{b f:Type}{c:f->b->Prop}{d:b->f}(e:∀x,c (d x) x):∀a:List b,io c (a.map d) a
 | []=> .nil
 |x::a=> .cons (e x) (Hx e a)
def T7(a:iu)(d:List T)(c:H):Prop:=d=[a.t]/\gu 0 c/\DB a.fx [a.fx.t] c/\a.cells.length<=1000000/\a.dT.length<=1000000/\a.dB.length<=1000000/\∀b∈a.dB,b.iA.length<=1000000/\b.jN.length<=1000000/\∀e∈b.jN,e.length<=1000000
structure Cp9(s:iu)(h h':H)(c0 c2 c3 cc cf ct:T)(es:List T)(lo hi:Nat->Nat)(n0:Nat):Prop where
 nb:Nb h h'
 z:h.size<=n0
 zn:n0<=h'.size
 k0:c0.gD=true/\c0.cells=[c0]/\c2.gD=true/\c2.cells=[c2]/\c3.gD=true/\c3.cells=[c3]
 gc:Gr h' cc 1 (ge s.cells)
 gf:Gr h' cf 1 (ge s.dT)
 bc:∀c,dL cc=some c->h.size<=c/\c<n0
 bf:∀c,dL cf=some c->h.size<=c/\c<n0/\dL cc≠some c
 th:RY n0 h' ct es s.dB lo hi
def Nd(g:iu)(o:List T)(i:H)(n:T)(j:H):Prop:=∃a b c d e f h l k m,n= .agg [a,dw g.fx.tx,b,c,d,e,f]/\Cp9 g i j a b c d e f h l k m
structure Cq(s:iu)(h:H)(c0 c2 c3 cc cf:T)(q:Nat)(h':H)(k:Nat)(ct:T)(es:List T)(lo hi:Nat->Nat)(ver:Nat):Prop where
 nb:Nb h h'
 b1:h'.get h.size=some (dy 7 0 [s.t])
 b2:h'.get (h.size+1)=some (dy 7 0 [.agg [dx,dw 0,dx,dx,dx,dx,dx]])
 b3:h'.get q=some (dy 7 ver [.agg [c0,dw s.fx.tx,c2,c3,cc,cf,ct]])
 gc:Gr h' cc 1 (ge s.cells)
 gf:Gr h' cf 1 (ge s.dT)
 th:RY (q+1) h' ct es (s.dB.take k) lo hi
def NT:(jp iu T7 Nd).Ok Tryz.prog cx 163:=by
 refine jk (tb:=⟨pt [],ht [(154,jp fg DB Ig),(207,jp ICp M0 If)]⟩) ei eg (iL 2097183 [(1,[(2,3),(2,5),(2,7),(6,7),(2,9),(6,9),(2,12),(6,12),(10,12)]),(5,[(1,7)])] Tryz.func163) (λ_ _=>1000005) (λw r d eL=>by obtain⟨rfl,_⟩:=eL;simp[Tryz.f163]) ?_;rintro h _ d ⟨rfl,eS,⟨_,_,p1,p2,p3,p4⟩,fv,fA,fC,eO⟩ L c7;simp at c7;have b7:=eS.hr;simp[Tryz.f163,c7];generalize G:H.cons _ _=F;have eW:gu 0 F:=by rw[<-G];exact(b7.cons _).cons _
 have gy:F.size=d.size+1+1:=by rw[<-G];rfl
 have eR:Nb d F:=by rw[<-G];exact⟨(((Nb.refl b7).cons _).cons _).ok,λa k=>((((Nb.refl b7).cons _).cons _).get a k).trans (fX d a)⟩
 have ca:F.get d.size=some (dy 7 0 [h.t]):=by rw[<-G];simp
 have cb:F.get (d.size+1)=some (dy 7 0 [.agg [dx,dw 0,dx,dx,dx,dx,dx]]):=by rw[<-G];simp
 clear G;refine lJ Gt dp h.fx ⟨rfl,eW,p1,p2,p3,p4⟩ ?_;rintro _ b ⟨s,u,v,fe,rfl,K,E⟩;have gk:=E.ok.sz;have dd:gu 0 b:=⟨E.ok.hp,E.ok.low,aw _⟩;have a1:=(E.get d.size dj).trans ca;have a2:=(E.get (d.size+1) dj).trans cb;obtain⟨Z,W,bl,⟨gd,gi,bn⟩,ec,U,okB⟩:=lq (cx:=cx) (sz:=1) dd (x:=sl (h.cells.map (T.int .i64))) (xs:=h.cells.map (T.int .i64)) og rfl yh og rfl rfl dp dp (by simp[T.cells]) dq;obtain⟨ae,M,Y,⟨gg,gj,al⟩,e8,I,b6⟩:=lq (cx:=cx) (sz:=1) okB (x:=sl (h.dT.map (T.int .i64))) (xs:=h.dT.map (T.int .i64)) og rfl yh og rfl rfl dp dp (by simp[T.cells]) dq;have cL:∀a,a<b.size->ew (b.cons (dy 1 0 [])) W a=true:=λa k=>eZ ((U a k).trans (by rw[dM,ao dj]));have c1:∀a,a<W.size->ew (W.cons (dy 1 0 [])) M a=true:=λa k=>eZ ((I a k).trans (by rw[dM,ao dj]));have dn:=eZ (E.get d.size dj);have dv:=cL d.size dj;have eX:=c1 d.size dj;have ea:∀a,b.size+1<=a->ew (b.cons (dy 1 0 [])) W a=true:=λa k=>iR (lf _ dq);have eb:∀a,b.size+2<=a->ew (W.cons (dy 1 0 [])) M a=true:=λa k=>iR (lf _ dq);have b9:∀a,b.size<=a->ew F b a=true:=λa k=>iR (lf _ dj);have bk:=(U d.size dj).trans a1;have ce:=(I d.size dj).trans bk;have cp:=(I (d.size+1) dj).trans ((U (d.size+1) dj).trans a2);have fE:=dd.low;have fL:=okB.low;have fS:=b6.low;simp only[aH]at bl Y bn al;rw[ec]at Y al;have e6:(d.size=b.size)=False:=dq;have gm:(d.size+1=b.size)=False:=dq;have e7:(d.size=b.size+1)=False:=dq;have gn:(d.size+1=b.size+1)=False:=dq;have ds:=b9 (b.size+1+1) dj;have eH:s.gD=true/\s.cells=[s]/\u.gD=true/\u.cells=[u]/\v.gD=true/\v.cells=[v]:=⟨K.g0.gD,K.g0.cells,K.g2.gD,K.g2.cells,K.g3.gD,K.g3.cells⟩;obtain⟨er,et,eu,ey,eA,eB⟩:=eH;simp[Mq,a1,bl,Y,ec,e8,bk,dn,dv,b9,ea,eb,e6,e7,ds];have fY:d.size+1<b.size+1+1:=dj;have e9:M.size=b.size+1+1:=dj;generalize R:M.cons ⟨7,0,0,true,false,_⟩=Q;have e5:Q.size=b.size+1+1+1:=by rw[<-R];simp[size_cons,e9]
 have eV:gu 0 Q:=by rw[<-R];exact gu.cons ⟨b6.hp,b6.low,aw _⟩ _
 have bs:Q.get (b.size+1+1)=some (dy 7 0 [.agg [dx,dw 0,dx,dx,dx,dx,dx]]):=by
  rw[<-R,dM,aq dj]
 have c9:∀a,a<b.size+1+1->Q.get a=M.get a:=λa k=>by rw[<-R,dM,ao dj]
 generalize S:dQ Q _ _=D;have gw:D.size=b.size+1+1+1:=by rw[<-S,fG,e5]
 have di:gu 0 D:=by rw[<-S];exact eV.put _ _
 have eC:=(show D.get (b.size+1+1)=some (dy 7 1 [.agg [s,dw h.fx.tx,u,v,.arr b.size Z 0 h.cells.length false,.arr (b.size+1) ae 0 h.dT.length false,dx]])by rw[<-S];exact(dE bs _ _).trans (aq rfl));have J:∀a,a<b.size+1+1->D.get a=M.get a:=λa k=>by rw[<-S,dE bs,ao dj];exact c9 a k
 clear S R;have bu:Gr D (.arr b.size Z 0 h.cells.length false) 1 (ge h.cells):=by
  have:=Gr.new (((J b.size dj).trans (I b.size dj)).trans bn);simpa using this
 have bz:Gr D (.arr (b.size+1) ae 0 h.dT.length false) 1 (ge h.dT):=by
  have:=Gr.new ((J (b.size+1) dj).trans al);simpa using this
 have eP:Nb d D:=⟨⟨di.hp,di.low,dj⟩,λa k=>(J a dj).trans ((I a dj).trans ((U a dj).trans ((E.get a dj).trans (eR.get a k))))⟩;have ef:=(J d.size dj).trans ce;have eh:=(J (d.size+1) dj).trans cp;have X:∀a,dL (.arr b.size Z 0 h.cells.length false)=some a->a=b.size:=λa i=>by simpa using i.symm
 have N:∀a,dL (.arr (b.size+1) ae 0 h.dT.length false)=some a->a=b.size+1:=λa i=>by simpa using i.symm
 generalize T.arr b.size Z 0 h.cells.length false=B at*
 generalize T.arr (b.size+1) ae 0 h.dT.length false=C at*
 have a6:∀a,dL B=some a->d.size<=a/\a<b.size+1+1+1:=λa i=>by have:=X a i;omega
 have a7:∀a,dL C=some a->d.size<=a/\a<b.size+1+1+1/\dL B≠some a:=λa i=>⟨by have:=N a i;omega,by have:=N a i;omega,λb8=>by have:=X a b8;have:=N a i;omega⟩;have dk:∀a,dL B=some a->a≠b.size+1+1/\a≠d.size+1:=λa i=>by have:=X a i;omega
 have dm:∀a,dL C=some a->a≠b.size+1+1/\a≠d.size+1:=λa i=>by have:=N a i;omega
 clear X N bl Y bn al dn dv eX b9 ea eb ds U I cL c1 bk ce cp a1 a2 ca cb J c9 bs;generalize b.size+1+1=i at*
 have fi:=bu.gD;have fl:=bu.cells;have fm:=bz.gD;have fo:=bz.cells;refine yt h.dB.length (λo L h'=>∃p P aX aE V,Cq h d s u v B C i h' o p P aX aE V/\dz L 1 (.ptr d.size 0 0 0)/\dz L 2 (.ptr (d.size+1) 0 0 0)/\dz L 3 (.ptr i 0 0 0)/\dz L 4 (dw o)) ?_ dj (aw _) ?_
 ·rintro o L h' fB ⟨p,P,aX,aE,V,f,bB,c4,av,bC⟩;simp[bB,bC,f.b1];refine dU (λbH=> ?_) (λbH=> ?_)
  ·have bN:o<h.dB.length:=by simpa using bH
   obtain⟨m,aN⟩:∃m,h.dB[o]? =some m:=⟨_,az bN⟩;have eI:h.dB[o]=m:=by rw[az bN]at aN;simpa using aN
   have bT:=eO m (ax aN);simp[bB,av,bC,f.b1,f.b3,bN,eI];have eU:gu 0 h':=⟨f.nb.ok.hp,f.nb.ok.low,aw _⟩;refine lJ Gu dp ⟨m,sl (ge m.iA),sl (m.jN.map X9),m.jN.map X9⟩ ⟨by rfl,⟨.inl rfl,.inl rfl,?_,?_⟩,eU,bT.1,bT.2.1,bT.2.2⟩ ?_
   ·exact Hx (λl=> .inl rfl) _
   ·rintro e a (rfl|rfl|he) x
    ·simp at x
    ·simp at x
    ·obtain⟨l,_,rfl⟩:=List.mem_map.1 he;simp[X9]at x
   rintro _ ap ⟨r,A,fb,rfl,e4,q⟩;have b8:i+1<=h'.size:=by have:=H.ej f.b3;omega
   have p3:=(q.get i dj).trans f.b3;have eD:Gr ap p 4 P:=f.th.g.mono λa x=>q.get a (by obtain⟨_,_,_,_,g,_⟩:=f.th.g.box x;exact H.ej g);obtain⟨a8,aA,eo,z⟩:=eD.FA (cx:=cx) ⟨q.ok.hp,q.ok.low,aw _⟩ OG rfl Ka rfl dp (x:=AE m r A) rfl (by have:=f.th.l;simp at this;simp;omega);have e2:=eZ (q.get i dj);have e1:∀a,a<ap.size->dL p≠some a->ew (ap.cons (dy 4 0 [AE m r A])) aA a=true:=λa k bS=>eZ ((z.2.1 a k bS).trans (by rw[dM,ao dj]));have bi:dL p≠some i:=λx=>by have:=(f.th.c i x).1;omega
   have e0:=e1 i (by have:=q.ok.sz;omega) bi;have p4:=(z.2.1 i (by have:=q.ok.sz;omega) bi).trans p3;have eE:(AE m r A).gD=true/\(AE m r A).cells=[dw m.pC,r,A,dw m.dH]:=by simp[AE,T.cells]
   have fs:AE m r A= .agg [dw m.pC,r,A,dw m.dH]:=rfl;simp[av,bC,eo,e2,eE,e0,p4,z.1.gD,z.1.cells,dP];rw[gY dj dj];simp;refine⟨o+1,dj,dj,⟨a8,P++[AE m r A],λw=>if w=(h.dB.take o).length then h'.size else aX w,λw=>if w=(h.dB.take o).length then ap.size else aE w,V+1,?_⟩,bB,c4,av,dp⟩;have gp:=z.2.2.2.sz;have gv:=q.ok.sz;have gq:∀a,a<h'.size->a≠i->dL p≠some a->(dQ aA i (dy 7 (V+1) [.agg [s,dw h.fx.tx,u,v,B,C,a8]])).get a=h'.get a:=λa k eM bS=>by
    rw[dE p4,ao eM,z.2.1 a dj bS,q.get a k]
   have O:∀a,a<=i->dL p≠some a:=λa k x=>by have:=(f.th.c a x).1;omega
   have de:gu 0 aA:=⟨z.2.2.2.hp,z.2.2.2.low,aw _⟩;refine⟨⟨⟨(de.put _ _).hp,(de.put _ _).low,by rw[fG];have:=f.nb.ok.sz;omega⟩,λa k=>(gq a dj dj (O a dj)).trans (f.nb.get a k)⟩,
    (gq _ dj dj (O _ dj)).trans f.b1,(gq _ dj dj (O _ dj)).trans f.b2,(dE p4 _ _).trans (aq rfl),
    f.gc.mono λa x=>gq a (by have:=a6 a x;omega) (dk a x).1 (O a (by have:=a6 a x;omega)),f.gf.mono λa x=>gq a (by have:=a7 a x;omega) (dm a x).1 (O a (by have:=a7 a x;omega)),?_⟩
   have e3:=(f.th.app b8 q e4 z).mono (h':=dQ aA i (dy 7 (V+1) [.agg [s,dw h.fx.tx,u,v,B,C,a8]])) (by rw[fG];exact au _) λa x _=>by rw[dE p4,ao dj]
   have eN:h.dB.take (o+1)=h.dB.take o++[m]:=by rw[List.take_add_one,aN];rfl
   rw[eN];exact e3
  ·have eF:o=h.dB.length:=by
    have:¬o<h.dB.length:=by simpa using bH
    omega
   subst eF;have c6:=f.th;rw[aL]at c6;have bi:∀a,dL p=some a->i+1<=a:=λa x=>(f.th.c a x).1;simp[c4,av,f.b2,f.b3,dP,dE f.b2];have an:∀a,a≠d.size+1->(lA d (dQ h' (d.size+1) (dy 7 1 [.agg [s,dw h.fx.tx,u,v,B,C,p]]))).get a=h'.get a:=λa k=>by rw[fK,dE f.b2,ao k]
   refine⟨s,u,v,B,C,p,P,aX,aE,i+1,rfl,⟨⟨((gu.put (n:=0) ⟨f.nb.ok.hp,f.nb.ok.low,aw _⟩ _ _).out d).hp,((gu.put (n:=0) ⟨f.nb.ok.hp,f.nb.ok.low,aw _⟩ _ _).out d).low,by rw[vK,fG];exact f.nb.ok.sz⟩,λa k=>(an a dj).trans (f.nb.get a k)⟩,dj,by rw[vK,fG];exact H.ej f.b3,⟨er,et,eu,ey,eA,eB⟩,
    f.gc.mono λa x=>an a (dk a x).2,f.gf.mono λa x=>an a (dm a x).2,a6,a7,c6.mono (by rw[vK,fG];exact au _) λa x _=>an a dj⟩
 ·refine⟨dx,[],λ_=>0,λ_=>0,1,⟨eP,ef,eh,eC,bu,bz,⟨Gr.nil _ _,rfl,λw e m x=>by simp at x,λw x=>by simp at x,λw j x y=>by simp at y,λa x=>by simp at x⟩⟩,dp⟩
end
end Go.Proofs.YtmaeadedikngoaaGreatDoor
