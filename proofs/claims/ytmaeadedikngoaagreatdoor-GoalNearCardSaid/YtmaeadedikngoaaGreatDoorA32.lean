/- Texts W09a to W09d. -/
import Derived.Test.YtmaeadedikngoaaGreatDoorA31
set_option linter.all false
set_option maxRecDepth 100000
set_option maxHeartbeats 8000000
namespace Go.Proofs.YtmaeadedikngoaaGreatDoor
noncomputable section
open Go Go.TI
attribute [-simp] List.map_take List.map_drop List.map_append fw eQ dZ Bool.not_or Bool.not_and
attribute [simp] fq eY
attribute [-simp] size_cons
def wa:List Int:=[3,3,4,4,5,6,7,8,9,10,11,12,13,14,15,16,18,19,20,21,22,23,2]
def mm(a:Int):Int:=if a<6\/28<a then 0 else wa.getD (a-6).toNat 0
def vM:gu:=⟨Int,λa=>[dy a],λa=>True,λa=> dy (mm a),λa c b=>by simp at b;rw[b]⟩
def NS:vM.Ok Tryz.prog cx 200:=by
 refine gX (tb:=⟨pt [],ht []⟩) ew ej (iQ 1037 [] Tryz.func200) (λl=>1) (by simp[vM]) (by simp[vM,Tryz.f200]) ?_;rintro(b:Int) m n f;simp[vM]at f|-;by_cases h:b<6\/28<b
 ·have d:mm b=0:=by unfold mm;rw[aq h]
  rcases h with h|h<;>simp[Tryz.f200,f,h,d]
 ·obtain⟨a,i⟩:∃a:Nat,b=(a:Int)+6:=⟨(b-6).toNat,dq⟩;subst i;have g:a<23:=dq;obtain⟨e,d⟩:∃e,wa[a]? =some e:=⟨_,az (show a<wa.length from g)⟩;have c:(wa.map (T.int .i64))[a]? =some (dy e):=by rw[aQ,d];rfl
  have j:mm ((a:Int)+6)=e:=by
   unfold mm;rw[ao h,show((a:Int)+6-6).toNat=a by omega];simp[List.getD,d]
  have k:binop .sub (dy ((a:Int)+6)) (dy 6)=some (dy (a:Int)):=by rw[kP dq dq];congr 2;omega
  simp only[wa,aR,cm]at c;obtain⟨_,c⟩:=List.getElem?_eq_some_iff.1 c;simp[Tryz.f200,f,show¬(a:Int)+6<6 by omega,show¬(28:Int)<(a:Int)+6 by omega,k,g,c,j]
def RN{b:fy}(ht:b.p 200=some vM)(a:Int):rl Tryz.prog cx b 200 [dy a]=some (dy (mm a)):=gU ht NS a trivial
structure VW(c:jz)(s:iz):Prop where
 v:OZ c
 f:mr c.eK s.fF=true
 cl:s.cells.length=c.eK.cells.length
 fu:s.dX.length=c.eK.dX.length
 th:s.dE.length=c.dE.length
 t:∀(i:Nat) (t:ee) (x:fP),s.dE[i]? =some t->c.dE[i]? =some x->0<=t.pC/\t.pC<x.iW.length/\t.iE.length=x.iE/\t.jR.length=x.iE
def Hq{a:jz}(b:OZ a):a.eK.fZ.length<=2/\a.dE.length<=4:=by
 have:=b.1;unfold jO rK at this;simp only[aB,aO]at this;have c:=b.2.1;omega
def Gl:m6 Tryz.prog cx 199 (λh:jz×iz=>[h.1.t,h.2.t]) (λh=>∀a∈h.1.dE,a.iW.length<=10000001) (λh=>LH (VW h.1 h.2)):=by
 refine jd (tb:=⟨pt [(74,vV.jf),(111,qh)],ht []⟩) ew ej (iQ 158456325028530997355645763711 [] Tryz.func199) (λ_=>100) (λh b g=>by simp at g;exact aP (jz.inj g.1) (iz.inj g.2)) dt (by simp[Tryz.f199]) ?_;rintro⟨f,l⟩ x m F;replace x:∀a∈f.dE,a.iW.length<=10000001:=x;simp at F;obtain⟨D,E⟩:=F;obtain⟨_,⟨b,rfl,M⟩,C⟩:=vV.use f x;cases b with
 |false=>simp[Tryz.f199,D,E,C]
 |true=>
  have G:=M rfl;obtain⟨W,X⟩:=Hq G;simp[Tryz.f199,D,E,C,ut,show f.eK.fZ.length<=1099511627776 by omega];refine dW (λB=> ?_) (λB=> ?_)
  ·simp
  simp only[bI,bU,aO]at B;obtain⟨⟨⟨Q,T⟩,U⟩,V⟩:=B;simp;generalize q:(hE.cons _).cons _=w;have P:gF 2 w:=by rw[<-q];exact⟨dt,dt,dt⟩
  have j:w.get 0=some (dA 7 0 [f.t]):=by rw[<-q];simp
  have n:w.get 1=some (dA 7 0 [l.t]):=by rw[<-q];simp
  clear q;refine fh f.dE.length dq (λe m g=>gF 2 g/\g.get 0=some (dA 7 0 [f.t])/\g.get 1=some (dA 7 0 [l.t])/\(∀(d:Nat) (c:ee) (a:fP),d<e->l.dE[d]? =some c->f.dE[d]? =some a->0<=c.pC/\c.pC<a.iW.length/\c.iE.length=a.iE/\c.jR.length=a.iE)/\dB m 2 (.ptr 0 0 0 0)/\dB m 3 (.ptr 1 0 0 0)/\dB m 5 (dy e)) ?_ ?_ dq ?_
  ·rintro e m g z L ⟨i,j,n,A,o,v,p⟩;have I:=i.ne (b:=0) dq;have O:=i.ne (b:=1) dq;have y:e<l.dE.length:=dq;obtain⟨c,ht⟩:∃c,l.dE[e]? =some c:=⟨_,az y⟩;obtain⟨a,k⟩:∃a,f.dE[e]? =some a:=⟨_,az z⟩;have J:l.dE[e]=c:=by rw[az y]at ht;simpa using ht
   have K:f.dE[e]=a:=by rw[az z]at k;simpa using k
   simp[j,n,o,v,p,z,y,I,i.low,J,K];refine dW (λu=> ?_) (λu=> ?_)
   ·simp[i.hp]
   simp only[bI,bU,aO,bj]at u;simp[o,v,p,L];refine⟨i.cons _,by simpa[I]using j,by simpa[O]using n,λd R S N r s=> ?_⟩;rcases aD d e with H|H
   ·exact A d R S H r s
   ·have:d=e:=dq;subst this;rw[ht]at r;rw[k]at s;simp only[ar]at r s;subst r s;exact⟨dq,dq,u.1.2,u.2⟩
  ·rintro m g ⟨i,j,n,A,o,v,p⟩;simp[j,o,p,i.hp];exact⟨G,Q,dq,dq,dq,λd c a ht k=>A d c a (List.getElem?_eq_some_iff.1 k).1 ht k⟩
  ·exact⟨P,j,n,λd c a N=>by omega,dt⟩
def Gk:m6 Tryz.prog cx 232 (λa:Int×Int=>[dy a.1,dy a.2]) (λa=>True) (λ_=>DJ):=by
 refine jd (tb:=⟨pt [],ht []⟩) ew ej (iQ 4275 [] Tryz.func232) (λ_=>10) (λa i b=>by simp at b;exact aP b.1 b.2) dt (by simp[Tryz.f232]) ?_;rintro⟨k,f⟩ _ j d;simp at d;obtain⟨g,c⟩:=d;by_cases e:f<1
 ·simp[Tryz.f232,c,e]
 ·simp[Tryz.f232,g,c,e,yQ (show¬f=0 by omega)];refine dW (λh=> ?_) (λh=> ?_)<;>simp[c,nJ]
def VR(a:fI)(b:ee):Prop:=(a.op=7\/a.op=9)->iT a.c b.iE.length=true
def BE:m6 Tryz.prog cx 201 (λb:fI×ee=>[b.1.t,b.2.t]) (λb=>VR b.1 b.2) (λ_=>DJ):=by
 refine jd (tb:=⟨pt [(232,Gk.jf)],ht []⟩) ew ej (iQ 1099578740959 [(6,[(1,10)]),(8,[(1,10)])] Tryz.func201) (λ_=>10) (λb v i=>by simp at i;exact aP (fI.inj i.1) (ee.inj i.2)) dt (by simp[Tryz.f201]) ?_;rintro⟨a,u⟩ d w o;replace d:VR a u:=d;simp at o;obtain⟨j,k⟩:=o;obtain⟨r,f⟩:=Gk.fnI (γ:=Int×Int) id (λ_=>trivial);have f:∀{tb:fy},tb.p 232=some (wR Tryz.prog cx 232 (λb:Int×Int=>[dy b.1,dy b.2]) (λb=>True) (λ_=>DJ))->∀h g,rl Tryz.prog cx tb 232 [dy h,dy g]=some (dy (r (h,g))):=λht h g=>f ht (h,g);cases c:decide (a.op=7)with
 |true=>
  obtain⟨s,hr,_⟩:=iu (d (.inl (by simpa using c)));have n:=ei (fj.1 (d (.inl (by simpa using c)))).1;have m:decide (a.op=6)=false:=by
   have:a.op=7:=by simpa using c
   exact aM dq
  have l:decide (a.op=27)=false:=by
   have:a.op=7:=by simpa using c
   exact aM dq
  simp[Tryz.f201,j,k,c,m,l,hr,n,f,nJ]
 |false=>
  cases e:decide (a.op=9)with
  |true=>
   obtain⟨s,hr,_⟩:=iu (d (.inr (by simpa using e)));have n:=ei (fj.1 (d (.inr (by simpa using e)))).1;have m:decide (a.op=6)=false:=by
    have:a.op=9:=by simpa using e
    exact aM dq
   have l:decide (a.op=27)=false:=by
    have:a.op=9:=by simpa using e
    exact aM dq
   simp[Tryz.f201,j,k,c,e,m,l,hr,n,f,nJ]
  |false=>
   simp[Tryz.f201,j,k]
   repeat' (refine dW (λq=> ?_) (λq=> ?_)<;>simp[q,c,e])
def KD{a:H}(h:gF 0 a)(b:List Int)(hl:b.length<=1000000):∃f c,iO cx a 38 38 dz (sl (gG b))=some (.val f c)/\Gr c f 1 (gG b)/\Nb a c/\(∀d,dO f=some d->a.size<=d)/\(c=a\/c=a.cons ⟨1,0,0,false,false,gG b⟩):=by
 unfold iO pR nc;simp only[kK,dR,show p8.u= .slice 3 from rfl,oq,OD];cases b with
 |nil=>exact⟨_,_,rfl,Gr.nil _ _,Nb.refl h,λd e=>by simp at e,.inl rfl⟩
 |cons g b=>
  refine⟨.arr a.size 0 0 (gG (g::b)).length false,a.cons ⟨1,0,0,false,false,gG (g::b)⟩,?_,Gr.new (ep:=0) (ver:=0) (ex:=false) dt,(Nb.refl h).cons _,λd e=>by simp at e;omega,.inr rfl⟩;rw[ni (by simp[T.cells]),ij];show jp (a.iY 1 8 [] (gG (g::b)))=_;rw[ou (by simp[T.cells]) dx (by simp at hl|-;omega)];rfl
structure PeP(c:jz)(s:iz)(th:Int)(e:ed)(t:ee)(x:fP)(i:fI):Prop where
 f:VW c s
 n:iT th c.dE.length=true
 ht:s.dE[th.toNat]? =some t
 hx:c.dE[th.toNat]? =some x
 hi:x.iW[t.pC.toNat]? =some i
 k:e.kind=1\/e.kind=17\/(e.kind=mm i.op/\e.kind≠0)
def Yi(a:Nat)(c:iz):Prop:=∀d∈c.dE,∀b∈d.jR,b.length<=a
def evN(a:Nat)(b:ed):Prop:=b.mn.length<=a/\b.uF.length<=a
def Um(c:jz)(f:iz)(h:Int)(e:T):Prop:=∃(a:ed) (b:Bool),e= .tuple [a.t,.bool b]/\evN 1000000 a/\(b=true->∃g i d,PeP c f h a g i d)
def GM{f:jz}{m:iz}(g:VW f m){d:Int}(h:iT d f.dE.length=true):∃b a c,jX d=some d.toNat/\m.dE[d.toNat]? =some b/\f.dE[d.toNat]? =some a/\jX b.pC=some b.pC.toNat/\a.iW[b.pC.toNat]? =some c/\b.iE.length=a.iE/\b.jR.length=a.iE/\(∀e∈iH c,0<=e/\e<a.iE)/\a.iE<=32:=by
 obtain⟨a,i,_⟩:=iu h;have j:=h;rw[<-g.th]at j;obtain⟨b,ht,_⟩:=iu j;obtain⟨p1,p2,p3,p4⟩:=g.t _ _ _ ht i;obtain⟨c,k⟩:∃c,a.iW[b.pC.toNat]? =some c:=⟨_,az dq⟩;have l:=g.v.2.2 a (ax i);exact⟨b,a,c,ei (fj.1 h).1,ht,i,ei p1,k,p3,p4,λe hr=>l.2.2 c (ax k) e hr,l.2.1⟩
structure PJ(th:Int)(t:ee)(i:fI)(o:Int)(h':H)(dv:T)(d:List Int)(ver:Nat):Prop where
 ok:gF 6 h'
 b2:h'.get 2=some (dA 7 0 [.agg [dy 0,dy 0,dy 0,dy 0,dy 0,dz,dz]])
 b3:h'.get 3=some (dA 4 1 [t.t])
 b4:h'.get 4=some (dA 6 1 [i.t])
 b5:h'.get 5=some (dA 7 ver [.agg [dy th,dy (mm i.op),dy o,dy 0,dy i.iS,dv,dz]])
 g:Gr h' dv 1 (gG d)
 l:d.length<=1000000
 bx:∀c,dO dv=some c->6<=c
def PJ.app{p:Int}{t:ee}{j:fI}{o:Int}{h:H}{q:Nat}(e:PJ p t j o h dz [] q)(k:List Int)(hl:k.length<=1000000):∃c b,iO cx h 38 38 dz (sl (gG k))=some (.val c b)/\c.gJ=true/\c.cells=[c]/\(∀a,a<6->b.get a=h.get a)/\gF 6 b/\
 ∀d,d=((dA 7 (q+1) [.agg [dy p,dy (mm j.op),dy o,dy 0,dy j.iS,c,dz]]):iN)->PJ p t j o (dT b 5 d) c k (q+1):=by
 have w:=e.ok.sz;obtain⟨c,b,u,m,l,r,_⟩:=KD ⟨e.ok.hp,e.ok.low,aw _⟩ k hl;have f:∀a,a<6->b.get a=h.get a:=λa i=>l.get a dq;have s:gF 6 b:=⟨l.ok.hp,l.ok.low,aS w l.ok.sz⟩;have v:=(f 5 dq).trans e.b5;have g:∀d a,(dT b 5 d).get a=if a=5 then some d else b.get a:=λd a=>dI v d a;refine⟨c,b,u,m.gJ,m.cells,f,s,?_⟩;rintro d rfl;exact⟨s.put _ _,by rw[g,ao dq];exact(f 2 dq).trans e.b2,by rw[g,ao dq];exact(f 3 dq).trans e.b3,by rw[g,ao dq];exact(f 4 dq).trans e.b4,by rw[g,aq rfl],m.mono λa i=>by rw[g,ao (by have:=r a i;omega)],hl,λa i=>by have:=r a i;omega⟩
def zf:m6 Tryz.prog cx 149 (λn:jz×iz×Int=>[n.1.t,n.2.1.t,dy n.2.2]) (λn=>(∀x∈n.1.dE,x.iW.length<=10000001)/\Yi 1000000 n.2.1) (λn=>Um n.1 n.2.1 n.2.2):=by
 refine jd (tb:=⟨pt [(199,Gl.jf),(200,vM),(201,BE.jf)],ht []⟩) ew ej (iQ 10633824283312870803151638865622599647 [(11,[(2,8),(4,8),(6,8)]),(14,[(2,3),(2,4)])] Tryz.func149) (λ_=>100) (λn b S=>by simp at S;exact aP (jz.inj S.1) (aP (iz.inj S.2.1) S.2.2)) dt (by simp[Tryz.f149]) ?_;rintro⟨d,Y,p⟩ ⟨bz,bH⟩ J bs;simp only at bz bH;simp at bs;obtain⟨cv,aE,G⟩:=bs;obtain⟨_,⟨b,rfl,bu⟩,bi⟩:=Gl.use (d,Y) bz;simp only at bu bi;have aN:Um d Y p (.tuple [ed.t ⟨0,0,0,0,0,[],[]⟩,.bool false]):=⟨_,_,rfl,⟨dt,dt⟩,dt⟩;simp[Tryz.f149,cv,aE,G,bi];refine dW (λaX=> ?_) (λaX=> ?_)
 ·simp;exact aN
 simp only[bI,bU,bj]at aX;obtain⟨⟨rfl,b8⟩,ds⟩:=aX;have U:=bu rfl;have a6:iT p d.dE.length=true:=fj.2 ⟨dq,dq⟩;obtain⟨w,x,e,bN,a7,bS,c7,bT,di,dk,b6,dm⟩:=GM U a6;have c4:iT p Y.fF.dE.length=true:=by
  rw[(nO U.f).2.2,<-U.v.2.1];exact a6
 obtain⟨u,ca,_⟩:=iu c4;simp[G,bN,a7,bS,c7,bT,ca];have W:∀y:ed,evN 1000000 y->(y.kind=1\/y.kind=17\/(y.kind=mm e.op/\y.kind≠0))->Um d Y p (.tuple [y.t,.bool true]):=λy aE G=>⟨y,true,rfl,aE,λ_=>⟨w,x,e,U,a6,a7,bS,bT,G⟩⟩;refine dW (λb8=> ?_) (λb8=> ?_)
 ·simp[G];exact W ⟨p,1,-1,0,-1,[],[]⟩ ⟨dt,dt⟩ (.inl rfl)
 cases an:decide (u.iA=4)with
 |true=>
  simp[G,an,bN,ca];exact W ⟨p,17,u.cond,0,e.iS,[],[]⟩ ⟨dt,dt⟩ (.inr (.inl rfl))
 |false=>
 cases a8:decide (u.iA=2)with
 |false=>
  simp[an,a8];exact aN
 |true=>
  have bC:∀r∈iH e,iT r w.jR.length=true:=λr hr=>by have:=b6 r hr;exact fj.2 ⟨dq,dq⟩
  have cL:VR e w:=λk=>by
   have hr:e.c∈iH e:=by unfold iH;rcases k with k|k<;>simp[k]
   have:=b6 _ hr;exact fj.2 ⟨dq,dq⟩
  obtain⟨_,⟨L,rfl⟩,bk⟩:=BE.use (e,w) cL;simp only at bk;simp[an,a8,RN,bk];refine dW (λE=> ?_) (λE=> ?_)
  ·simp;exact aN
  have bB:mm e.op≠0:=by simpa using E
  simp;generalize I:H.cons _ _=C;have X:gF 6 C:=by rw[<-I];exact⟨dt,dt,dt⟩
  have cb:C.get 2=some (dA 7 0 [.agg [dy 0,dy 0,dy 0,dy 0,dy 0,dz,dz]]):=by rw[<-I];simp
  have O:C.get 3=some (dA 4 1 [w.t]):=by rw[<-I];simp
  have P:C.get 4=some (dA 6 1 [e.t]):=by rw[<-I];simp
  have s:∃al,C.get 5=some (dA 7 al [.agg [dy p,dy (mm e.op),dy L,dy 0,dy e.iS,dz,dz]]):=⟨3,by rw[<-I];simp⟩;clear I;obtain⟨dd,s⟩:=s;have Z:∀{r:Int},r∈iH e->∃j,jX r=some r.toNat/\w.jR[r.toNat]? =some j/\j.length<=1000000:=λ{r} hr=>by
   obtain⟨j,hl,_⟩:=iu (bC r hr);exact⟨j,ei (fj.1 (bC r hr)).1,hl,bH w (ax a7) j (ax hl)⟩
  have dn:gF 0 C:=⟨X.hp,X.low,aw _⟩;have ea:=X.sz;have V:PJ p w e L C dz [] dd:=⟨X,cb,O,P,s,Gr.nil _ _,dt,λd E=>by simp at E⟩;refine kS (λJ h'=>∃R F al,PJ p w e L h' R F al/\dB J 6 (.ptr 2 0 0 0)/\dB J 8 (.ptr 3 0 0 0)/\dB J 9 (.ptr 4 0 0 0)/\dB J 10 (.ptr 5 0 0 0)) (λb9=> ?_) (λb9=> ?_) ?_
  ·have T:e.op=10:=by simpa using b9
   obtain⟨j,l1,l2,l3⟩:=Z (r:=e.a) (by unfold iH;simp[T]);obtain⟨ae,o,B,N,M,z,b7,fin⟩:=V.app j l3;have sv:=λd (m:d<6)=>ff (z d m);have A:=(z 5 dq).trans s;simp[O,P,s,l1,l2,B,N,M,A,dS];exact⟨_,_,_,fin _ rfl⟩
  ·cases Q:decide (e.op=7)with
   |true=>
    obtain⟨j,l1,l2,l3⟩:=Z (r:=e.c) (by unfold iH;simp[show e.op=7 by simpa using Q]);obtain⟨ae,o,B,N,M,z,b7,fin⟩:=V.app j l3;have sv:=λd (m:d<6)=>ff (z d m);have A:=(z 5 dq).trans s;simp[Q,O,P,s,l1,l2,B,N,M,A,dS];exact⟨_,_,_,fin _ rfl⟩
   |false=>
   cases ap:decide (e.op=9)with
   |true=>
    obtain⟨j,l1,l2,l3⟩:=Z (r:=e.c) (by unfold iH;simp[show e.op=9 by simpa using ap]);obtain⟨ae,o,B,N,M,z,b7,fin⟩:=V.app j l3;have sv:=λd (m:d<6)=>ff (z d m);have A:=(z 5 dq).trans s;simp[Q,ap,O,P,s,l1,l2,B,N,M,A,dS];exact⟨_,_,_,fin _ rfl⟩
   |false=>
    simp[Q,ap];exact⟨_,_,_,V⟩
  rintro J h' ⟨R,F,al,i,bl,cy,bn,T⟩;have dv:=i.ok.sz;have c9:gF 0 h':=⟨i.ok.hp,i.ok.low,aw _⟩;simp[bn,i.b4];refine dW (λE=> ?_) (λE=> ?_)
  ·have c1:e.op=8\/e.op=9\/e.op=26:=by
    simp only[bP,aO]at E;omega
   obtain⟨j,l1,l2,l3⟩:=Z (r:=e.b) (by unfold iH;rcases c1 with k|k|k<;>simp[k]);obtain⟨ae,o,B,g,D,ce,_⟩:=KD c9 j l3;have sv:=λd (m:d<6)=>ff (D.get d dq);have de:=(D.get 2 dq).trans i.b2;have A:=(D.get 5 dq).trans i.b5;have K:∀h d,(dT o 5 h).get d=if d=5 then some h else o.get d:=λh d=>dI A h d;have aA:∀h q d,(dT (dT o 5 h) 2 q).get d=if d=2 then some q else if d=5 then some h else o.get d:=λh q d=>by
    rw[lY (by simp;exact D.ok.hp) (by have:=D.ok.sz;simp;omega),K]
   have av:∀h q,TI.fz (dT (dT o 5 h) 2 q) R=some (sl (gG F)):=λh q=>(i.g.mono (h':=dT (dT o 5 h) 2 q) λd m=>by
    obtain⟨_,_,_,_,c6,_⟩:=i.g.box m;have:=i.bx d m;rw[aA,ao dq,ao dq];exact D.get d (H.ez c6)).fz dt
   have cp:∀h q,TI.fz (dT (dT o 5 h) 2 q) ae=some (sl (gG j)):=λh q=>(g.mono (h':=dT (dT o 5 h) 2 q) λd m=>by
    have:=ce d m;rw[aA,ao dq,ao dq]).fz dt
   simp[bl,cy,bn,T,i.b3,i.b4,i.b5,l1,l2,B,g.gJ,g.cells,de,A,K,aA,av,cp,dS,D.ok.hp];exact W ⟨p,mm e.op,L,0,e.iS,F,j⟩ ⟨i.l,l3⟩ (.inr (.inr ⟨rfl,bB⟩))
  ·have K:∀h d,(dT h' 2 h).get d=if d=2 then some h else h'.get d:=λh d=>dI i.b2 h d;have av:∀h,TI.fz (dT h' 2 h) R=some (sl (gG F)):=λh=>(i.g.mono (h':=dT h' 2 h) λd m=>by
    have:=i.bx d m;rw[K,ao dq]).fz dt
   simp[bl,T,i.b2,i.b5,K,av,dS,i.ok.hp];exact W ⟨p,mm e.op,L,0,e.iS,F,[]⟩ ⟨i.l,dt⟩ (.inr (.inr ⟨rfl,bB⟩))
structure R9(n0:Nat)(h':H)(ct:T)(es:List T)(ts:List ee)(lo hi:Nat->Nat):Prop where
 g:Gr h' ct 4 es
 l:es.length=ts.length
 e:∀(i:Nat) (e:T) (t:ee),es[i]? =some e->ts[i]? =some t->∃a b el,e=AM t a b/\At (lo i) (hi i) h' a b el t
 m:∀i,i<ts.length->n0<=lo i/\hi i<=h'.size
 d:∀i j,i<j->j<ts.length->hi i<=lo j
 c:∀c,dO ct=some c->n0<=c/\∀i,i<ts.length->¬(lo i<=c/\c<hi i)
def R9.mono{j:Nat}{f h':H}{k:T}{n:List T}{s:List ee}{q h:Nat->Nat}(b:R9 j f k n s q h)(C:f.size<=h'.size)(p:∀a,j<=a->a<f.size->h'.get a=f.get a):R9 j h' k n s q h:=
 ⟨b.g.mono λa r=>p a (b.c a r).1 (by obtain⟨_,_,_,_,z,_⟩:=b.g.box r;exact H.ez z),b.l,λi v B A o=>by
   obtain⟨t,u,y,w,x⟩:=b.e i v B A o;have D:=b.m i (by have:=(List.getElem?_eq_some_iff.1 o).1;exact this);exact⟨t,u,y,w,x.mono (au _) (au _) λa E F=>p a dq dq⟩,λi h=>by have:=b.m i h;omega,b.d,b.c⟩
def R9.app{y:Nat}{o r D:H}{v B:T}{w:List T}{i:List ee}{F h:Nat->Nat}(f:R9 y o v w i F h)(V:y<=o.size)(G:Nb o r){s t:T}{C:List T}{u:ee}(S:At o.size r.size r s t C u)(x:Xt r v 4 (w++[AM u s t]) B D):
 R9 y D B (w++[AM u s t]) (i++[u]) (λa=>if a=i.length then o.size else F a) (λa=>if a=i.length then r.size else h a):=by
 have X:=G.ok.sz;have Y:=x.2.2.2.sz;have A:∀b,dO v=some b->b<o.size:=λb q=>by obtain⟨_,_,_,_,P,_⟩:=f.g.box q;exact H.ez P
 refine⟨x.1,by simp[f.l],λa L U p k=> ?_,λa h=> ?_,λa E Q R=> ?_,λb q=> ?_⟩
 ·by_cases q:a=i.length
  ·subst q;rw[cu (au _),Nat.sub_self]at k;rw[cu (by rw[f.l];exact au _),f.l,Nat.sub_self]at p;simp at p k;subst p;subst k;refine⟨s,t,C,rfl,?_⟩;simp only[bo];exact S.mono (au _) (au _) λb I z=>x.2.1 b z λq=>by have:=A b q;omega
  ·have h:a<i.length:=by have:=(List.getElem?_eq_some_iff.1 k).1;simp at this;omega
   rw[co h]at k;rw[co (by rw[f.l];exact h)]at p;obtain⟨J,K,O,M,N⟩:=f.e a L U p k;have W:=f.m a h;rw[ao q,ao q];exact⟨J,K,O,M,N.mono (au _) (au _) λb I z=>(x.2.1 b dq λq=>((f.c b q).2 a h ⟨I,z⟩)).trans (G.get b dq)⟩
 ·simp at h;by_cases q:a=i.length
  ·rw[aq q,aq q];omega
  ·rw[ao q,ao q];have:=f.m a dq;omega
 ·simp at R;by_cases q:E=i.length
  ·rw[ao dq,aq q];have:=f.m a dq;omega
  ·rw[ao dq,ao q];exact f.d a E Q dq
 ·rcases x.2.2.1 b q with q|q
  ·refine⟨(f.c b q).1,λa h=> ?_⟩;simp at h;by_cases j:a=i.length
   ·rw[aq j,aq j];have:=A b q;omega
   ·rw[ao j,ao j];exact(f.c b q).2 a dq
  ·refine⟨dq,λa h=> ?_⟩;simp at h;by_cases j:a=i.length
   ·rw[aq j,aq j];omega
   ·rw[ao j,ao j];have:=f.m a dq;omega
def HF{b f:Type}{c:f->b->Prop}{d:b->f}(e:∀x,c (d x) x):∀a:List b,iv c (a.map d) a
 | []=> .nil
 |x::a=> .cons (e x) (HF e a)
def Uj(a:iz)(d:List T)(c:H):Prop:=d=[a.t]/\gF 0 c/\Dk a.fF [a.fF.t] c/\a.cells.length<=1000000/\a.dX.length<=1000000/\a.dE.length<=1000000/\∀b∈a.dE,b.iE.length<=1000000/\b.jR.length<=1000000/\∀e∈b.jR,e.length<=1000000
structure Cp9(s:iz)(h h':H)(c0 c2 c3 cc cf ct:T)(es:List T)(lo hi:Nat->Nat)(n0:Nat):Prop where
 nb:Nb h h'
 z:h.size<=n0
 zn:n0<=h'.size
 k0:c0.gJ=true/\c0.cells=[c0]/\c2.gJ=true/\c2.cells=[c2]/\c3.gJ=true/\c3.cells=[c3]
 gc:Gr h' cc 1 (gG s.cells)
 gf:Gr h' cf 1 (gG s.dX)
 bc:∀c,dO cc=some c->h.size<=c/\c<n0
 bf:∀c,dO cf=some c->h.size<=c/\c<n0/\dO cc≠some c
 th:R9 n0 h' ct es s.dE lo hi
def Nq(g:iz)(o:List T)(i:H)(n:T)(j:H):Prop:=∃a b c d e f h l k m,n= .agg [a,dy g.fF.tx,b,c,d,e,f]/\Cp9 g i j a b c d e f h l k m
structure Cq(s:iz)(h:H)(c0 c2 c3 cc cf:T)(q:Nat)(h':H)(k:Nat)(ct:T)(es:List T)(lo hi:Nat->Nat)(ver:Nat):Prop where
 nb:Nb h h'
 b1:h'.get h.size=some (dA 7 0 [s.t])
 b2:h'.get (h.size+1)=some (dA 7 0 [.agg [dz,dy 0,dz,dz,dz,dz,dz]])
 b3:h'.get q=some (dA 7 ver [.agg [c0,dy s.fF.tx,c2,c3,cc,cf,ct]])
 gc:Gr h' cc 1 (gG s.cells)
 gf:Gr h' cf 1 (gG s.dX)
 th:R9 (q+1) h' ct es (s.dE.take k) lo hi
def N5:(js iz Uj Nq).Ok Tryz.prog cx 163:=by
 refine jo (tb:=⟨pt [],ht [(154,js fk Dk In),(207,js ICp Nc Im)]⟩) ew ej (iQ 2097183 [(1,[(2,3),(2,5),(2,7),(6,7),(2,9),(6,9),(2,12),(6,12),(10,12)]),(5,[(1,7)])] Tryz.func163) (λ_ _=>1000005) (λw r d eH=>by obtain⟨rfl,_⟩:=eH;simp[Tryz.f163]) ?_;rintro h _ d ⟨rfl,eP,⟨_,_,p1,p2,p3,p4⟩,fo,fs,fA,eM⟩ L c4;simp at c4;have b7:=eP.hr;simp[Tryz.f163,c4];generalize G:H.cons _ _=F;have eU:gF 0 F:=by rw[<-G];exact(b7.cons _).cons _
 have gv:F.size=d.size+1+1:=by rw[<-G];rfl
 have eO:Nb d F:=by rw[<-G];exact⟨(((Nb.refl b7).cons _).cons _).ok,λa k=>((((Nb.refl b7).cons _).cons _).get a k).trans (f9 d a)⟩
 have ca:F.get d.size=some (dA 7 0 [h.t]):=by rw[<-G];simp
 have cb:F.get (d.size+1)=some (dA 7 0 [.agg [dz,dy 0,dz,dz,dz,dz,dz]]):=by rw[<-G];simp
 clear G;refine lP Gp dt h.fF ⟨rfl,eU,p1,p2,p3,p4⟩ ?_;rintro _ b ⟨s,u,v,e9,rfl,K,E⟩;have gi:=E.ok.sz;have c7:gF 0 b:=⟨E.ok.hp,E.ok.low,aw _⟩;have a1:=(E.get d.size dq).trans ca;have a2:=(E.get (d.size+1) dq).trans cb;obtain⟨Z,W,bl,⟨fS,gd,bn⟩,ea,U,okB⟩:=lz (cx:=cx) (sz:=1) c7 (x:=sl (h.cells.map (T.int .i64))) (xs:=h.cells.map (T.int .i64)) oo rfl yp oo rfl rfl dt dt (by simp[T.cells]) du;obtain⟨ae,M,Y,⟨fY,gg,al⟩,e6,I,b6⟩:=lz (cx:=cx) (sz:=1) okB (x:=sl (h.dX.map (T.int .i64))) (xs:=h.dX.map (T.int .i64)) oo rfl yp oo rfl rfl dt dt (by simp[T.cells]) du;have cv:∀a,a<b.size->eJ (b.cons (dA 1 0 [])) W a=true:=λa k=>ff ((U a k).trans (by rw[dP,ao dq]));have cy:∀a,a<W.size->eJ (W.cons (dA 1 0 [])) M a=true:=λa k=>ff ((I a k).trans (by rw[dP,ao dq]));have dk:=ff (E.get d.size dq);have dn:=cv d.size dq;have eV:=cy d.size dq;have ds:∀a,b.size+1<=a->eJ (b.cons (dA 1 0 [])) W a=true:=λa k=>iV (lm _ du);have dv:∀a,b.size+2<=a->eJ (W.cons (dA 1 0 [])) M a=true:=λa k=>iV (lm _ du);have b9:∀a,b.size<=a->eJ F b a=true:=λa k=>iV (lm _ dq);have bk:=(U d.size dq).trans a1;have ce:=(I d.size dq).trans bk;have cp:=(I (d.size+1) dq).trans ((U (d.size+1) dq).trans a2);have fB:=c7.low;have fC:=okB.low;have fE:=b6.low;simp only[aH]at bl Y bn al;rw[ea]at Y al;have e4:(d.size=b.size)=False:=du;have gj:(d.size+1=b.size)=False:=du;have e5:(d.size=b.size+1)=False:=du;have gk:(d.size+1=b.size+1)=False:=du;have dm:=b9 (b.size+1+1) dq;have eE:s.gJ=true/\s.cells=[s]/\u.gJ=true/\u.cells=[u]/\v.gJ=true/\v.cells=[v]:=⟨K.g0.gJ,K.g0.cells,K.g2.gJ,K.g2.cells,K.g3.gJ,K.g3.cells⟩;obtain⟨eh,eo,er,et,eu,ey⟩:=eE;simp[MC,a1,bl,Y,ea,e6,bk,dk,dn,b9,ds,dv,e4,e5,dm];have fL:d.size+1<b.size+1+1:=dq;have e7:M.size=b.size+1+1:=dq;generalize R:M.cons ⟨7,0,0,true,false,_⟩=Q;have e3:Q.size=b.size+1+1+1:=by rw[<-R];simp[size_cons,e7]
 have eS:gF 0 Q:=by rw[<-R];exact gF.cons ⟨b6.hp,b6.low,aw _⟩ _
 have bs:Q.get (b.size+1+1)=some (dA 7 0 [.agg [dz,dy 0,dz,dz,dz,dz,dz]]):=by
  rw[<-R,dP,aq dq]
 have c6:∀a,a<b.size+1+1->Q.get a=M.get a:=λa k=>by rw[<-R,dP,ao dq]
 generalize S:dT Q _ _=D;have gp:D.size=b.size+1+1+1:=by rw[<-S,fJ,e3]
 have dd:gF 0 D:=by rw[<-S];exact eS.put _ _
 have eA:=(show D.get (b.size+1+1)=some (dA 7 1 [.agg [s,dy h.fF.tx,u,v,.arr b.size Z 0 h.cells.length false,.arr (b.size+1) ae 0 h.dX.length false,dz]])by rw[<-S];exact(dI bs _ _).trans (aq rfl));have J:∀a,a<b.size+1+1->D.get a=M.get a:=λa k=>by rw[<-S,dI bs,ao dq];exact c6 a k
 clear S R;have bu:Gr D (.arr b.size Z 0 h.cells.length false) 1 (gG h.cells):=by
  have:=Gr.new (((J b.size dq).trans (I b.size dq)).trans bn);simpa using this
 have bz:Gr D (.arr (b.size+1) ae 0 h.dX.length false) 1 (gG h.dX):=by
  have:=Gr.new ((J (b.size+1) dq).trans al);simpa using this
 have eN:Nb d D:=⟨⟨dd.hp,dd.low,dq⟩,λa k=>(J a dq).trans ((I a dq).trans ((U a dq).trans ((E.get a dq).trans (eO.get a k))))⟩;have eb:=(J d.size dq).trans ce;have ec:=(J (d.size+1) dq).trans cp;have X:∀a,dO (.arr b.size Z 0 h.cells.length false)=some a->a=b.size:=λa i=>by simpa using i.symm
 have N:∀a,dO (.arr (b.size+1) ae 0 h.dX.length false)=some a->a=b.size+1:=λa i=>by simpa using i.symm
 generalize T.arr b.size Z 0 h.cells.length false=B at*
 generalize T.arr (b.size+1) ae 0 h.dX.length false=C at*
 have a6:∀a,dO B=some a->d.size<=a/\a<b.size+1+1+1:=λa i=>by have:=X a i;omega
 have a7:∀a,dO C=some a->d.size<=a/\a<b.size+1+1+1/\dO B≠some a:=λa i=>⟨by have:=N a i;omega,by have:=N a i;omega,λb8=>by have:=X a b8;have:=N a i;omega⟩;have de:∀a,dO B=some a->a≠b.size+1+1/\a≠d.size+1:=λa i=>by have:=X a i;omega
 have di:∀a,dO C=some a->a≠b.size+1+1/\a≠d.size+1:=λa i=>by have:=N a i;omega
 clear X N bl Y bn al dk dn eV b9 ds dv dm U I cv cy bk ce cp a1 a2 ca cb J c6 bs;generalize b.size+1+1=i at*
 have fb:=bu.gJ;have fe:=bu.cells;have fi:=bz.gJ;have fl:=bz.cells;refine yC h.dE.length (λo L h'=>∃p P aX aE V,Cq h d s u v B C i h' o p P aX aE V/\dB L 1 (.ptr d.size 0 0 0)/\dB L 2 (.ptr (d.size+1) 0 0 0)/\dB L 3 (.ptr i 0 0 0)/\dB L 4 (dy o)) ?_ dq (aw _) ?_
 ·rintro o L h' fv ⟨p,P,aX,aE,V,f,bB,cL,av,bC⟩;simp[bB,bC,f.b1];refine dW (λbH=> ?_) (λbH=> ?_)
  ·have bN:o<h.dE.length:=by simpa using bH
   obtain⟨m,aN⟩:∃m,h.dE[o]? =some m:=⟨_,az bN⟩;have eF:h.dE[o]=m:=by rw[az bN]at aN;simpa using aN
   have bT:=eM m (ax aN);simp[bB,av,bC,f.b1,f.b3,bN,eF];have eR:gF 0 h':=⟨f.nb.ok.hp,f.nb.ok.low,aw _⟩;refine lP Gq dt ⟨m,sl (gG m.iE),sl (m.jR.map Yj),m.jR.map Yj⟩ ⟨by rfl,⟨.inl rfl,.inl rfl,?_,?_⟩,eR,bT.1,bT.2.1,bT.2.2⟩ ?_
   ·exact HF (λl=> .inl rfl) _
   ·rintro e a (rfl|rfl|he) x
    ·simp at x
    ·simp at x
    ·obtain⟨l,_,rfl⟩:=List.mem_map.1 he;simp[Yj]at x
   rintro _ ap ⟨r,A,e8,rfl,e2,q⟩;have b8:i+1<=h'.size:=by have:=H.ez f.b3;omega
   have p3:=(q.get i dq).trans f.b3;have eB:Gr ap p 4 P:=f.th.g.mono λa x=>q.get a (by obtain⟨_,_,_,_,g,_⟩:=f.th.g.box x;exact H.ez g);obtain⟨a8,aA,ef,z⟩:=eB.Fx (cx:=cx) ⟨q.ok.hp,q.ok.low,aw _⟩ OR rfl Kj rfl dt (x:=AM m r A) rfl (by have:=f.th.l;simp at this;simp;omega);have e0:=ff (q.get i dq);have eX:∀a,a<ap.size->dO p≠some a->eJ (ap.cons (dA 4 0 [AM m r A])) aA a=true:=λa k bS=>ff ((z.2.1 a k bS).trans (by rw[dP,ao dq]));have bi:dO p≠some i:=λx=>by have:=(f.th.c i x).1;omega
   have eW:=eX i (by have:=q.ok.sz;omega) bi;have p4:=(z.2.1 i (by have:=q.ok.sz;omega) bi).trans p3;have eC:(AM m r A).gJ=true/\(AM m r A).cells=[dy m.pC,r,A,dy m.dK]:=by simp[AM,T.cells]
   have fm:AM m r A= .agg [dy m.pC,r,A,dy m.dK]:=rfl;simp[av,bC,ef,e0,eC,eW,p4,z.1.gJ,z.1.cells,dS];rw[il dq dq];simp;refine⟨o+1,dq,dq,⟨a8,P++[AM m r A],λw=>if w=(h.dE.take o).length then h'.size else aX w,λw=>if w=(h.dE.take o).length then ap.size else aE w,V+1,?_⟩,bB,cL,av,dt⟩;have gm:=z.2.2.2.sz;have gn:=q.ok.sz;have gq:∀a,a<h'.size->a≠i->dO p≠some a->(dT aA i (dA 7 (V+1) [.agg [s,dy h.fF.tx,u,v,B,C,a8]])).get a=h'.get a:=λa k eI bS=>by
    rw[dI p4,ao eI,z.2.1 a dq bS,q.get a k]
   have O:∀a,a<=i->dO p≠some a:=λa k x=>by have:=(f.th.c a x).1;omega
   have c9:gF 0 aA:=⟨z.2.2.2.hp,z.2.2.2.low,aw _⟩;refine⟨⟨⟨(c9.put _ _).hp,(c9.put _ _).low,by rw[fJ];have:=f.nb.ok.sz;omega⟩,λa k=>(gq a dq dq (O a dq)).trans (f.nb.get a k)⟩,
    (gq _ dq dq (O _ dq)).trans f.b1,(gq _ dq dq (O _ dq)).trans f.b2,(dI p4 _ _).trans (aq rfl),
    f.gc.mono λa x=>gq a (by have:=a6 a x;omega) (de a x).1 (O a (by have:=a6 a x;omega)),f.gf.mono λa x=>gq a (by have:=a7 a x;omega) (di a x).1 (O a (by have:=a7 a x;omega)),?_⟩
   have e1:=(f.th.app b8 q e2 z).mono (h':=dT aA i (dA 7 (V+1) [.agg [s,dy h.fF.tx,u,v,B,C,a8]])) (by rw[fJ];exact au _) λa x _=>by rw[dI p4,ao dq]
   have eL:h.dE.take (o+1)=h.dE.take o++[m]:=by rw[List.take_add_one,aN];rfl
   rw[eL];exact e1
  ·have eD:o=h.dE.length:=by
    have:¬o<h.dE.length:=by simpa using bH
    omega
   subst eD;have c1:=f.th;rw[aL]at c1;have bi:∀a,dO p=some a->i+1<=a:=λa x=>(f.th.c a x).1;simp[cL,av,f.b2,f.b3,dS,dI f.b2];have an:∀a,a≠d.size+1->(lL d (dT h' (d.size+1) (dA 7 1 [.agg [s,dy h.fF.tx,u,v,B,C,p]]))).get a=h'.get a:=λa k=>by rw[fO,dI f.b2,ao k]
   refine⟨s,u,v,B,C,p,P,aX,aE,i+1,rfl,⟨⟨((gF.put (n:=0) ⟨f.nb.ok.hp,f.nb.ok.low,aw _⟩ _ _).out d).hp,((gF.put (n:=0) ⟨f.nb.ok.hp,f.nb.ok.low,aw _⟩ _ _).out d).low,by rw[vU,fJ];exact f.nb.ok.sz⟩,λa k=>(an a dq).trans (f.nb.get a k)⟩,dq,by rw[vU,fJ];exact H.ez f.b3,⟨eh,eo,er,et,eu,ey⟩,
    f.gc.mono λa x=>an a (de a x).2,f.gf.mono λa x=>an a (di a x).2,a6,a7,c1.mono (by rw[vU,fJ];exact au _) λa x _=>an a dq⟩
 ·refine⟨dz,[],λ_=>0,λ_=>0,1,⟨eN,eb,ec,eA,bu,bz,⟨Gr.nil _ _,rfl,λw e m x=>by simp at x,λw x=>by simp at x,λw j x y=>by simp at y,λa x=>by simp at x⟩⟩,dt⟩
end
end Go.Proofs.YtmaeadedikngoaaGreatDoor
