/- Texts W09a to W09e. -/
import Derived.Test.YtmaeadedikngoaaGreatDoorA23
set_option linter.unusedVariables false
set_option linter.unusedSimpArgs false
set_option maxRecDepth 100000
set_option maxHeartbeats 8000000
namespace Go.Proofs.YtmaeadedikngoaaGreatDoor
noncomputable section
open Go Go.TI
attribute [-simp] List.map_take List.map_drop List.map_append fi ei dT Bool.not_or Bool.not_and
attribute [simp] fh ew
attribute [-simp] size_cons
def vk:List Int:=[3,3,4,4,5,6,7,8,9,10,11,12,13,14,15,16,18,19,20,21,22,23,2]
def lO(a:Int):Int:=if a<6\/28<a then 0 else vk.getD (a-6).toNat 0
def uY:fK:=⟨Int,λa=>[.int .i64 a],λa=>True,λa=> .int .i64 (lO a),λa c b=>by simp at b;rw[b]⟩
theorem MV:uY.Ok Tryz.prog cx 200:=by
 refine f8 (tb:=⟨pt [],ht []⟩) dX dU (iN 1037 [] Tryz.func200) (λl=>1) (by simp[uY]) (by simp[uY,Tryz.f200]) ?_
 rintro(b:Int) m n f
 simp[uY]at f|-
 by_cases h:b<6\/28<b
 ·have d:lO b=0:=by unfold lO;rw[aq h]
  rcases h with h|h<;>simp[Tryz.f200,f,h,d]
 ·obtain⟨a,i⟩:∃a:Nat,b=(a:Int)+6:=⟨(b-6).toNat,by omega⟩
  subst i
  have g:a<23:=by omega
  obtain⟨e,d⟩:∃e,vk[a]? =some e:=⟨_,aB (show a<vk.length from g)⟩
  have c:(vk.map (T.int .i64))[a]? =some (.int .i64 e):=by rw[aT,d];rfl
  have j:lO ((a:Int)+6)=e:=by
   unfold lO;rw[ao h,show((a:Int)+6-6).toNat=a by omega];simp[List.getD,d]
  have k:binop .sub (.int .i64 ((a:Int)+6)) (.int .i64 6)=some (.int .i64 (a:Int)):=by rw[kl (by omega) (by omega)];congr 2;omega
  simp only[vk,aU,cz]at c
  obtain⟨_,c⟩:=List.getElem?_eq_some_iff.1 c
  simp[Tryz.f200,f,show¬(a:Int)+6<6 by omega,show¬(28:Int)<(a:Int)+6 by omega,k,g,c,j]
theorem QL{b:eG}(ht:b.p 200=some uY)(a:Int):rl Tryz.prog cx b 200 [.int .i64 a]=some (.int .i64 (lO a)):=fR ht MV a trivial
structure VK(c:jh)(s:gJ):Prop where
 v:NZ c
 f:mW c.d8 s.fW=true
 cl:s.cells.length=c.d8.cells.length
 fu:s.dR.length=c.d8.dR.length
 th:s.dp.length=c.dp.length
 t:∀(i:Nat) (t:dK) (x:fq),s.dp[i]? =some t->c.dp[i]? =some x->0<=t.pC/\t.pC<x.iJ.length/\t.iq.length=x.iq/\t.jD.length=x.iq
theorem Gz{a:jh}(b:NZ a):a.d8.fP.length<=2/\a.dp.length<=4:=by
 have:=b.1
 unfold jN rj at this
 simp only[ay,aL]at this
 have c:=b.2.1
 omega
theorem Fy:nZ Tryz.prog cx 199 (λh:jh×gJ=>[h.1.t,h.2.t]) (λh=>∀a∈h.1.dp,a.iJ.length<=10000001) (λh=>NE (VK h.1 h.2)):=by
 refine jk (tb:=⟨pt [(74,u9.jl),(111,pU)],ht []⟩) dX dU (iN 158456325028530997355645763711 [] Tryz.func199) (λ_=>100) (λh b g=>by simp at g;exact aR (jh.inj g.1) (gJ.inj g.2)) (by simp) (by simp[Tryz.f199]) ?_
 rintro⟨f,l⟩ x m F
 replace x:∀a∈f.dp,a.iJ.length<=10000001:=x
 simp at F
 obtain⟨D,E⟩:=F
 obtain⟨_,⟨b,rfl,M⟩,C⟩:=u9.use f x
 cases b with
 |false=>simp[Tryz.f199,D,E,C]
 |true=>
  have G:=M rfl
  obtain⟨W,X⟩:=Gz G
  simp[Tryz.f199,D,E,C,tS,show f.d8.fP.length<=1099511627776 by omega]
  refine dM (λB=> ?_) (λB=> ?_)
  ·simp
  simp only[bI,bS,aL]at B
  obtain⟨⟨⟨Q,T⟩,U⟩,V⟩:=B
  simp
  generalize q:(hE.cons _).cons _=w
  have P:gh 2 w:=by rw[<-q];exact⟨by simp,by simp,by simp⟩
  have j:w.get 0=some ⟨7,0,0,true,false,[f.t]⟩:=by rw[<-q];simp
  have n:w.get 1=some ⟨7,0,0,true,false,[l.t]⟩:=by rw[<-q];simp
  clear q
  refine eQ f.dp.length (by omega) (λe m g=>gh 2 g/\g.get 0=some ⟨7,0,0,true,false,[f.t]⟩/\g.get 1=some ⟨7,0,0,true,false,[l.t]⟩/\(∀(d:Nat) (c:dK) (a:fq),d<e->l.dp[d]? =some c->f.dp[d]? =some a->0<=c.pC/\c.pC<a.iJ.length/\c.iq.length=a.iq/\c.jD.length=a.iq)/\TI.dt m 2=some (.ptr 0 0 0 0)/\TI.dt m 3=some (.ptr 1 0 0 0)/\TI.dt m 5=some (.int .i64 e)) ?_ ?_ (by omega) ?_
  ·rintro e m g z L ⟨i,j,n,A,o,v,p⟩
   have I:=i.ne (b:=0) (by omega)
   have O:=i.ne (b:=1) (by omega)
   have y:e<l.dp.length:=by omega
   obtain⟨c,ht⟩:∃c,l.dp[e]? =some c:=⟨_,aB y⟩
   obtain⟨a,k⟩:∃a,f.dp[e]? =some a:=⟨_,aB z⟩
   have J:l.dp[e]=c:=by rw[aB y]at ht;simpa using ht
   have K:f.dp[e]=a:=by rw[aB z]at k;simpa using k
   simp[j,n,o,v,p,z,y,I,i.low,J,K]
   refine dM (λu=> ?_) (λu=> ?_)
   ·simp[i.hp]
   simp only[bI,bS,aL,bo]at u
   simp[o,v,p,L]
   refine⟨i.cons _,by simpa[I]using j,by simpa[O]using n,λd R S N r s=> ?_⟩
   rcases aD d e with H|H
   ·exact A d R S H r s
   ·have:d=e:=by omega
    subst this
    rw[ht]at r;rw[k]at s
    simp only[ar]at r s
    subst r s
    exact⟨by omega,by omega,u.1.2,u.2⟩
  ·rintro m g ⟨i,j,n,A,o,v,p⟩
   simp[j,o,p,i.hp]
   exact⟨G,Q,by omega,by omega,by omega,λd c a ht k=>A d c a (List.getElem?_eq_some_iff.1 k).1 ht k⟩
  ·exact⟨P,j,n,λd c a N=>by omega,by simp⟩
theorem Fx:nZ Tryz.prog cx 232 (λa:Int×Int=>[.int .i64 a.1,.int .i64 a.2]) (λa=>True) (λ_=>CZ):=by
 refine jk (tb:=⟨pt [],ht []⟩) dX dU (iN 4275 [] Tryz.func232) (λ_=>10) (λa i b=>by simp at b;exact aR b.1 b.2) (by simp) (by simp[Tryz.f232]) ?_
 rintro⟨k,f⟩ _ j d
 simp at d
 obtain⟨g,c⟩:=d
 by_cases e:f<1
 ·simp[Tryz.f232,c,e]
 ·simp[Tryz.f232,g,c,e,E7 (show¬f=0 by omega)]
  refine dM (λh=> ?_) (λh=> ?_)<;>simp[c,oH]
def VF(a:fa)(b:dK):Prop:=(a.op=7\/a.op=9)->iI a.c b.iq.length=true
theorem AY:nZ Tryz.prog cx 201 (λb:fa×dK=>[b.1.t,b.2.t]) (λb=>VF b.1 b.2) (λ_=>CZ):=by
 refine jk (tb:=⟨pt [(232,Fx.jl)],ht []⟩) dX dU (iN 1099578740959 [(6,[(1,10)]),(8,[(1,10)])] Tryz.func201) (λ_=>10) (λb v i=>by simp at i;exact aR (fa.inj i.1) (dK.inj i.2)) (by simp) (by simp[Tryz.f201]) ?_
 rintro⟨a,u⟩ d w o
 replace d:VF a u:=d
 simp at o
 obtain⟨j,k⟩:=o
 obtain⟨r,f⟩:=Fx.fnI (γ:=Int×Int) id (λ_=>trivial)
 have f:∀{tb:eG},tb.p 232=some (wR Tryz.prog cx 232 (λb:Int×Int=>[.int .i64 b.1,.int .i64 b.2]) (λb=>True) (λ_=>CZ))->∀h g,rl Tryz.prog cx tb 232 [.int .i64 h,.int .i64 g]=some (.int .i64 (r (h,g))):=λht h g=>f ht (h,g)
 cases c:decide (a.op=7)with
 |true=>
  obtain⟨s,hr,_⟩:=ij (d (.inl (by simpa using c)))
  have n:=dS (ed.1 (d (.inl (by simpa using c)))).1
  have m:decide (a.op=6)=false:=by
   have:a.op=7:=by simpa using c
   exact bg (by omega)
  have l:decide (a.op=27)=false:=by
   have:a.op=7:=by simpa using c
   exact bg (by omega)
  simp[Tryz.f201,j,k,c,m,l,hr,n,f,oH]
 |false=>
  cases e:decide (a.op=9)with
  |true=>
   obtain⟨s,hr,_⟩:=ij (d (.inr (by simpa using e)))
   have n:=dS (ed.1 (d (.inr (by simpa using e)))).1
   have m:decide (a.op=6)=false:=by
    have:a.op=9:=by simpa using e
    exact bg (by omega)
   have l:decide (a.op=27)=false:=by
    have:a.op=9:=by simpa using e
    exact bg (by omega)
   simp[Tryz.f201,j,k,c,e,m,l,hr,n,f,oH]
  |false=>
   simp[Tryz.f201,j,k]
   repeat' (refine dM (λq=> ?_) (λq=> ?_)<;>simp[q,c,e])
theorem JZ{a:H}(h:gh 0 a)(b:List Int)(hl:b.length<=1000000):∃f c,iu cx a 38 38 (.dq [] false) (sl (fD b))=some (.val f c)/\Gr c f 1 (fD b)/\Nb a c/\(∀d,dE f=some d->a.size<=d)/\(c=a\/c=a.cons ⟨1,0,0,false,false,fD b⟩):=by
 unfold iu oF mf
 simp only[jQ,dD,show m8.u= .slice 3 from rfl,mJ,ND]
 cases b with
 |nil=>exact⟨_,_,rfl,Gr.nil _ _,Nb.refl h,λd e=>by simp at e,.inl rfl⟩
 |cons g b=>
  refine⟨.arr a.size 0 0 (fD (g::b)).length false,a.cons ⟨1,0,0,false,false,fD (g::b)⟩,?_,Gr.new (ep:=0) (ver:=0) (ex:=false) (by simp),(Nb.refl h).cons _,λd e=>by simp at e;omega,.inr rfl⟩
  rw[lA (by simp[T.cells]),fO]
  show iV (a.iA 1 8 [] (fD (g::b)))=_
  rw[nW (by simp[T.cells]) (by decide) (by simp at hl|-;omega)];rfl
structure PeP(c:jh)(s:gJ)(th:Int)(e:dN)(t:dK)(x:fq)(i:fa):Prop where
 f:VK c s
 n:iI th c.dp.length=true
 ht:s.dp[th.toNat]? =some t
 hx:c.dp[th.toNat]? =some x
 hi:x.iJ[t.pC.toNat]? =some i
 k:e.kind=1\/e.kind=17\/(e.kind=lO i.op/\e.kind≠0)
def XT(a:Nat)(c:gJ):Prop:=∀d∈c.dp,∀b∈d.jD,b.length<=a
def evN(a:Nat)(b:dN):Prop:=b.mt.length<=a/\b.uI.length<=a
def TY(c:jh)(f:gJ)(h:Int)(e:T):Prop:=∃(a:dN) (b:Bool),e= .tuple [a.t,.bool b]/\evN 1000000 a/\(b=true->∃g i d,PeP c f h a g i d)
theorem FX{f:jh}{m:gJ}(g:VK f m){d:Int}(h:iI d f.dp.length=true):∃b a c,ke d=some d.toNat/\m.dp[d.toNat]? =some b/\f.dp[d.toNat]? =some a/\ke b.pC=some b.pC.toNat/\a.iJ[b.pC.toNat]? =some c/\b.iq.length=a.iq/\b.jD.length=a.iq/\(∀e∈iv c,0<=e/\e<a.iq)/\a.iq<=32:=by
 obtain⟨a,i,_⟩:=ij h
 have j:=h
 rw[<-g.th]at j
 obtain⟨b,ht,_⟩:=ij j
 obtain⟨p1,p2,p3,p4⟩:=g.t _ _ _ ht i
 obtain⟨c,k⟩:∃c,a.iJ[b.pC.toNat]? =some c:=⟨_,aB (by omega)⟩
 have l:=g.v.2.2 a (az i)
 exact⟨b,a,c,dS (ed.1 h).1,ht,i,dS p1,k,p3,p4,λe hr=>l.2.2 c (az k) e hr,l.2.1⟩
structure PJ(th:Int)(t:dK)(i:fa)(o:Int)(h':H)(dv:T)(d:List Int)(ver:Nat):Prop where
 ok:gh 6 h'
 b2:h'.get 2=some ⟨7,0,0,true,false,[.agg [.int .i64 0,.int .i64 0,.int .i64 0,.int .i64 0,.int .i64 0,.dq [] false,.dq [] false]]⟩
 b3:h'.get 3=some ⟨4,0,1,true,false,[t.t]⟩
 b4:h'.get 4=some ⟨6,0,1,true,false,[i.t]⟩
 b5:h'.get 5=some ⟨7,0,ver,true,false,[.agg [.int .i64 th,.int .i64 (lO i.op),.int .i64 o,.int .i64 0,.int .i64 i.iF,dv,.dq [] false]]⟩
 g:Gr h' dv 1 (fD d)
 l:d.length<=1000000
 bx:∀c,dE dv=some c->6<=c
theorem PJ.app{p:Int}{t:dK}{j:fa}{o:Int}{h:H}{q:Nat}(e:PJ p t j o h (.dq [] false) [] q)(k:List Int)(hl:k.length<=1000000):∃c b,iu cx h 38 38 (.dq [] false) (sl (fD k))=some (.val c b)/\c.fT=true/\c.cells=[c]/\(∀a,a<6->b.get a=h.get a)/\gh 6 b/\
 ∀d,d=(⟨7,0,q+1,true,false,[.agg [.int .i64 p,.int .i64 (lO j.op),.int .i64 o,.int .i64 0,.int .i64 j.iF,c,.dq [] false]]⟩:iE)->PJ p t j o (dI b 5 d) c k (q+1):=by
 have w:=e.ok.sz
 obtain⟨c,b,u,m,l,r,_⟩:=JZ ⟨e.ok.hp,e.ok.low,aw _⟩ k hl
 have f:∀a,a<6->b.get a=h.get a:=λa i=>l.get a (by omega)
 have s:gh 6 b:=⟨l.ok.hp,l.ok.low,aS w l.ok.sz⟩
 have v:=(f 5 (by omega)).trans e.b5
 have g:∀d a,(dI b 5 d).get a=if a=5 then some d else b.get a:=λd a=>dy v d a
 refine⟨c,b,u,m.fT,m.cells,f,s,?_⟩
 rintro d rfl
 exact⟨s.put _ _,by rw[g,ao (by omega)];exact(f 2 (by omega)).trans e.b2,by rw[g,ao (by omega)];exact(f 3 (by omega)).trans e.b3,by rw[g,ao (by omega)];exact(f 4 (by omega)).trans e.b4,by rw[g,aq rfl],m.mono λa i=>by rw[g,ao (by have:=r a i;omega)],hl,λa i=>by have:=r a i;omega⟩
theorem yr:nZ Tryz.prog cx 149 (λn:jh×gJ×Int=>[n.1.t,n.2.1.t,.int .i64 n.2.2]) (λn=>(∀x∈n.1.dp,x.iJ.length<=10000001)/\XT 1000000 n.2.1) (λn=>TY n.1 n.2.1 n.2.2):=by
 refine jk (tb:=⟨pt [(199,Fy.jl),(200,uY),(201,AY.jl)],ht []⟩) dX dU (iN 10633824283312870803151638865622599647 [(11,[(2,8),(4,8),(6,8)]),(14,[(2,3),(2,4)])] Tryz.func149) (λ_=>100) (λn b S=>by simp at S;exact aR (jh.inj S.1) (aR (gJ.inj S.2.1) S.2.2)) (by simp) (by simp[Tryz.f149]) ?_
 rintro⟨d,Y,p⟩ ⟨bv,bN⟩ J bs
 simp only at bv bN
 simp at bs
 obtain⟨cX,aE,G⟩:=bs
 obtain⟨_,⟨b,rfl,bu⟩,bi⟩:=Fy.use (d,Y) bv
 simp only at bu bi
 have aN:TY d Y p (.tuple [dN.t ⟨0,0,0,0,0,[],[]⟩,.bool false]):=⟨_,_,rfl,⟨by simp,by simp⟩,by simp⟩
 simp[Tryz.f149,cX,aE,G,bi]
 refine dM (λaX=> ?_) (λaX=> ?_)
 ·simp
  exact aN
 simp only[bI,bS,bo]at aX
 obtain⟨⟨rfl,b9⟩,ea⟩:=aX
 have U:=bu rfl
 have a6:iI p d.dp.length=true:=ed.2 ⟨by omega,by omega⟩
 obtain⟨w,x,e,bT,a7,bX,dd,b6,dm,dn,b7,ds⟩:=FX U a6
 have c7:iI p Y.fW.dp.length=true:=by
  rw[(nq U.f).2.2,<-U.v.2.1];exact a6
 obtain⟨u,cb,_⟩:=ij c7
 simp[G,bT,a7,bX,dd,b6,cb]
 have W:∀y:dN,evN 1000000 y->(y.kind=1\/y.kind=17\/(y.kind=lO e.op/\y.kind≠0))->TY d Y p (.tuple [y.t,.bool true]):=λy aE G=>⟨y,true,rfl,aE,λ_=>⟨w,x,e,U,a6,a7,bX,b6,G⟩⟩
 refine dM (λb9=> ?_) (λb9=> ?_)
 ·simp[G]
  exact W ⟨p,1,-1,0,-1,[],[]⟩ ⟨by simp,by simp⟩ (.inl rfl)
 cases an:decide (u.im=4)with
 |true=>
  simp[G,an,bT,cb]
  exact W ⟨p,17,u.cond,0,e.iF,[],[]⟩ ⟨by simp,by simp⟩ (.inr (.inl rfl))
 |false=>
 cases a8:decide (u.im=2)with
 |false=>
  simp[an,a8]
  exact aN
 |true=>
  have bB:∀r∈iv e,iI r w.jD.length=true:=λr hr=>by have:=b7 r hr;exact ed.2 ⟨by omega,by omega⟩
  have c4:VF e w:=λk=>by
   have hr:e.c∈iv e:=by unfold iv;rcases k with k|k<;>simp[k]
   have:=b7 _ hr
   exact ed.2 ⟨by omega,by omega⟩
  obtain⟨_,⟨L,rfl⟩,bk⟩:=AY.use (e,w) c4
  simp only at bk
  simp[an,a8,QL,bk]
  refine dM (λE=> ?_) (λE=> ?_)
  ·simp
   exact aN
  have bz:lO e.op≠0:=by simpa using E
  simp
  generalize I:H.cons _ _=C
  have X:gh 6 C:=by rw[<-I];exact⟨by simp,by simp,by simp⟩
  have ce:C.get 2=some ⟨7,0,0,true,false,[.agg [.int .i64 0,.int .i64 0,.int .i64 0,.int .i64 0,.int .i64 0,.dq [] false,.dq [] false]]⟩:=by rw[<-I];simp
  have O:C.get 3=some ⟨4,0,1,true,false,[w.t]⟩:=by rw[<-I];simp
  have P:C.get 4=some ⟨6,0,1,true,false,[e.t]⟩:=by rw[<-I];simp
  have s:∃al,C.get 5=some ⟨7,0,al,true,false,[.agg [.int .i64 p,.int .i64 (lO e.op),.int .i64 L,.int .i64 0,.int .i64 e.iF,.dq [] false,.dq [] false]]⟩:=⟨3,by rw[<-I];simp⟩
  clear I
  obtain⟨di,s⟩:=s
  have Z:∀{r:Int},r∈iv e->∃j,ke r=some r.toNat/\w.jD[r.toNat]? =some j/\j.length<=1000000:=λ{r} hr=>by
   obtain⟨j,hl,_⟩:=ij (bB r hr)
   exact⟨j,dS (ed.1 (bB r hr)).1,hl,bN w (az a7) j (az hl)⟩
  have dv:gh 0 C:=⟨X.hp,X.low,aw _⟩
  have ef:=X.sz
  have V:PJ p w e L C (.dq [] false) [] di:=⟨X,ce,O,P,s,Gr.nil _ _,by simp,λd E=>by simp at E⟩
  refine m6 (λJ h'=>∃R F al,PJ p w e L h' R F al/\TI.dt J 6=some (.ptr 2 0 0 0)/\TI.dt J 8=some (.ptr 3 0 0 0)/\TI.dt J 9=some (.ptr 4 0 0 0)/\TI.dt J 10=some (.ptr 5 0 0 0)) (λca=> ?_) (λca=> ?_) ?_
  ·have T:e.op=10:=by simpa using ca
   obtain⟨j,l1,l2,l3⟩:=Z (r:=e.a) (by unfold iv;simp[T])
   obtain⟨ae,o,B,N,M,z,b8,fin⟩:=V.app j l3
   have sv:=λd (m:d<6)=>ee (z d m)
   have A:=(z 5 (by omega)).trans s
   simp[O,P,s,l1,l2,B,N,M,A,dG]
   exact⟨_,_,_,fin _ rfl⟩
  ·cases Q:decide (e.op=7)with
   |true=>
    obtain⟨j,l1,l2,l3⟩:=Z (r:=e.c) (by unfold iv;simp[show e.op=7 by simpa using Q])
    obtain⟨ae,o,B,N,M,z,b8,fin⟩:=V.app j l3
    have sv:=λd (m:d<6)=>ee (z d m)
    have A:=(z 5 (by omega)).trans s
    simp[Q,O,P,s,l1,l2,B,N,M,A,dG]
    exact⟨_,_,_,fin _ rfl⟩
   |false=>
   cases ap:decide (e.op=9)with
   |true=>
    obtain⟨j,l1,l2,l3⟩:=Z (r:=e.c) (by unfold iv;simp[show e.op=9 by simpa using ap])
    obtain⟨ae,o,B,N,M,z,b8,fin⟩:=V.app j l3
    have sv:=λd (m:d<6)=>ee (z d m)
    have A:=(z 5 (by omega)).trans s
    simp[Q,ap,O,P,s,l1,l2,B,N,M,A,dG]
    exact⟨_,_,_,fin _ rfl⟩
   |false=>
    simp[Q,ap]
    exact⟨_,_,_,V⟩
  rintro J h' ⟨R,F,al,i,bn,c1,bp,T⟩
  have eb:=i.ok.sz
  have de:gh 0 h':=⟨i.ok.hp,i.ok.low,aw _⟩
  simp[bp,i.b4]
  refine dM (λE=> ?_) (λE=> ?_)
  ·have c6:e.op=8\/e.op=9\/e.op=26:=by
    simp only[bR,aL]at E;omega
   obtain⟨j,l1,l2,l3⟩:=Z (r:=e.b) (by unfold iv;rcases c6 with k|k|k<;>simp[k])
   obtain⟨ae,o,B,g,D,cp,_⟩:=JZ de j l3
   have sv:=λd (m:d<6)=>ee (D.get d (by omega))
   have dk:=(D.get 2 (by omega)).trans i.b2
   have A:=(D.get 5 (by omega)).trans i.b5
   have K:∀h d,(dI o 5 h).get d=if d=5 then some h else o.get d:=λh d=>dy A h d
   have aA:∀h q d,(dI (dI o 5 h) 2 q).get d=if d=2 then some q else if d=5 then some h else o.get d:=λh q d=>by
    rw[ph (by simp;exact D.ok.hp) (by have:=D.ok.sz;simp;omega),K]
   have av:∀h q,TI.fz (dI (dI o 5 h) 2 q) R=some (sl (fD F)):=λh q=>(i.g.mono (h':=dI (dI o 5 h) 2 q) λd m=>by
    obtain⟨_,_,_,_,c9,_⟩:=i.g.box m
    have:=i.bx d m
    rw[aA,ao (by omega),ao (by omega)];exact D.get d (H.dL c9)).fz (by simp)
   have cL:∀h q,TI.fz (dI (dI o 5 h) 2 q) ae=some (sl (fD j)):=λh q=>(g.mono (h':=dI (dI o 5 h) 2 q) λd m=>by
    have:=cp d m
    rw[aA,ao (by omega),ao (by omega)]).fz (by simp)
   simp[bn,c1,bp,T,i.b3,i.b4,i.b5,l1,l2,B,g.fT,g.cells,dk,A,K,aA,av,cL,dG,D.ok.hp]
   exact W ⟨p,lO e.op,L,0,e.iF,F,j⟩ ⟨i.l,l3⟩ (.inr (.inr ⟨rfl,bz⟩))
  ·have K:∀h d,(dI h' 2 h).get d=if d=2 then some h else h'.get d:=λh d=>dy i.b2 h d
   have av:∀h,TI.fz (dI h' 2 h) R=some (sl (fD F)):=λh=>(i.g.mono (h':=dI h' 2 h) λd m=>by
    have:=i.bx d m
    rw[K,ao (by omega)]).fz (by simp)
   simp[bn,T,i.b2,i.b5,K,av,dG,i.ok.hp]
   exact W ⟨p,lO e.op,L,0,e.iF,F,[]⟩ ⟨i.l,by simp⟩ (.inr (.inr ⟨rfl,bz⟩))
structure Q5(n0:Nat)(h':H)(ct:T)(es:List T)(ts:List dK)(lo hi:Nat->Nat):Prop where
 g:Gr h' ct 4 es
 l:es.length=ts.length
 e:∀(i:Nat) (e:T) (t:dK),es[i]? =some e->ts[i]? =some t->∃a b el,e=zU t a b/\zo (lo i) (hi i) h' a b el t
 m:∀i,i<ts.length->n0<=lo i/\hi i<=h'.size
 d:∀i j,i<j->j<ts.length->hi i<=lo j
 c:∀c,dE ct=some c->n0<=c/\∀i,i<ts.length->¬(lo i<=c/\c<hi i)
theorem Q5.mono{j:Nat}{f h':H}{k:T}{n:List T}{s:List dK}{q h:Nat->Nat}(b:Q5 j f k n s q h)(C:f.size<=h'.size)(p:∀a,j<=a->a<f.size->h'.get a=f.get a):Q5 j h' k n s q h:=
 ⟨b.g.mono λa r=>p a (b.c a r).1 (by obtain⟨_,_,_,_,z,_⟩:=b.g.box r;exact H.dL z),b.l,λi v B A o=>by
   obtain⟨t,u,y,w,x⟩:=b.e i v B A o
   have D:=b.m i (by have:=(List.getElem?_eq_some_iff.1 o).1;exact this)
   exact⟨t,u,y,w,x.mono (au _) (au _) λa E F=>p a (by omega) (by omega)⟩,λi h=>by have:=b.m i h;omega,b.d,b.c⟩
theorem Q5.app{y:Nat}{o r D:H}{v B:T}{w:List T}{i:List dK}{F h:Nat->Nat}(f:Q5 y o v w i F h)(V:y<=o.size)(G:Nb o r){s t:T}{C:List T}{u:dK}(S:zo o.size r.size r s t C u)(x:Xt r v 4 (w++[zU u s t]) B D):
 Q5 y D B (w++[zU u s t]) (i++[u]) (λa=>if a=i.length then o.size else F a) (λa=>if a=i.length then r.size else h a):=by
 have X:=G.ok.sz
 have Y:=x.2.2.2.sz
 have A:∀b,dE v=some b->b<o.size:=λb q=>by obtain⟨_,_,_,_,P,_⟩:=f.g.box q;exact H.dL P
 refine⟨x.1,by simp[f.l],λa L U p k=> ?_,λa h=> ?_,λa E Q R=> ?_,λb q=> ?_⟩
 ·by_cases q:a=i.length
  ·subst q
   rw[cq (au _),Nat.sub_self]at k
   rw[cq (by rw[f.l];exact au _),f.l,Nat.sub_self]at p
   simp at p k
   subst p;subst k
   refine⟨s,t,C,rfl,?_⟩
   simp only[aY]
   exact S.mono (au _) (au _) λb I z=>x.2.1 b z λq=>by have:=A b q;omega
  ·have h:a<i.length:=by have:=(List.getElem?_eq_some_iff.1 k).1;simp at this;omega
   rw[bW h]at k
   rw[bW (by rw[f.l];exact h)]at p
   obtain⟨J,K,O,M,N⟩:=f.e a L U p k
   have W:=f.m a h
   rw[ao q,ao q]
   exact⟨J,K,O,M,N.mono (au _) (au _) λb I z=>(x.2.1 b (by omega) λq=>((f.c b q).2 a h ⟨I,z⟩)).trans (G.get b (by omega))⟩
 ·simp at h
  by_cases q:a=i.length
  ·rw[aq q,aq q];omega
  ·rw[ao q,ao q];have:=f.m a (by omega);omega
 ·simp at R
  by_cases q:E=i.length
  ·rw[ao (by omega),aq q];have:=f.m a (by omega);omega
  ·rw[ao (by omega),ao q];exact f.d a E Q (by omega)
 ·rcases x.2.2.1 b q with q|q
  ·refine⟨(f.c b q).1,λa h=> ?_⟩
   simp at h
   by_cases j:a=i.length
   ·rw[aq j,aq j];have:=A b q;omega
   ·rw[ao j,ao j];exact(f.c b q).2 a (by omega)
  ·refine⟨by omega,λa h=> ?_⟩
   simp at h
   by_cases j:a=i.length
   ·rw[aq j,aq j];omega
   ·rw[ao j,ao j];have:=f.m a (by omega);omega
theorem GZ{b f:Type}{c:f->b->Prop}{d:b->f}(e:∀x,c (d x) x):∀a:List b,gG c (a.map d) a
 | []=> .nil
 |x::a=> .cons (e x) (GZ e a)
def TT(a:gJ)(d:List T)(c:H):Prop:=d=[a.t]/\gh 0 c/\CC a.fW [a.fW.t] c/\a.cells.length<=1000000/\a.dR.length<=1000000/\a.dp.length<=1000000/\∀b∈a.dp,b.iq.length<=1000000/\b.jD.length<=1000000/\∀e∈b.jD,e.length<=1000000
structure Cp9(s:gJ)(h h':H)(c0 c2 c3 cc cf ct:T)(es:List T)(lo hi:Nat->Nat)(n0:Nat):Prop where
 nb:Nb h h'
 z:h.size<=n0
 zn:n0<=h'.size
 k0:c0.fT=true/\c0.cells=[c0]/\c2.fT=true/\c2.cells=[c2]/\c3.fT=true/\c3.cells=[c3]
 gc:Gr h' cc 1 (fD s.cells)
 gf:Gr h' cf 1 (fD s.dR)
 bc:∀c,dE cc=some c->h.size<=c/\c<n0
 bf:∀c,dE cf=some c->h.size<=c/\c<n0/\dE cc≠some c
 th:Q5 n0 h' ct es s.dp lo hi
def Mw(g:gJ)(o:List T)(i:H)(n:T)(j:H):Prop:=∃a b c d e f h l k m,n= .agg [a,.int .i64 g.fW.tx,b,c,d,e,f]/\Cp9 g i j a b c d e f h l k m
structure Cq(s:gJ)(h:H)(c0 c2 c3 cc cf:T)(q:Nat)(h':H)(k:Nat)(ct:T)(es:List T)(lo hi:Nat->Nat)(ver:Nat):Prop where
 nb:Nb h h'
 b1:h'.get h.size=some ⟨7,0,0,true,false,[s.t]⟩
 b2:h'.get (h.size+1)=some ⟨7,0,0,true,false,[.agg [.dq [] false,.int .i64 0,.dq [] false,.dq [] false,.dq [] false,.dq [] false,.dq [] false]]⟩
 b3:h'.get q=some ⟨7,0,ver,true,false,[.agg [c0,.int .i64 s.fW.tx,c2,c3,cc,cf,ct]]⟩
 gc:Gr h' cc 1 (fD s.cells)
 gf:Gr h' cf 1 (fD s.dR)
 th:Q5 (q+1) h' ct es (s.dp.take k) lo hi
theorem M7:(jM gJ TT Mw).Ok Tryz.prog cx 163:=by
 refine iU (tb:=⟨pt [],ht [(154,jM ej CC HK),(207,jM ICp Mh HJ)]⟩) dX dU (iN 2097183 [(1,[(2,3),(2,5),(2,7),(6,7),(2,9),(6,9),(2,12),(6,12),(10,12)]),(5,[(1,7)])] Tryz.func163) (λ_ _=>1000005) (λw r d eM=>by obtain⟨rfl,_⟩:=eM;simp[Tryz.f163]) ?_
 rintro h _ d ⟨rfl,eU,⟨_,_,p1,p2,p3,p4⟩,fS,fX,gg,eP⟩ L c7
 simp at c7
 have b8:=eU.hr
 simp[Tryz.f163,c7]
 generalize G:H.cons _ _=F
 have eX:gh 0 F:=by rw[<-G];exact(b8.cons _).cons _
 have gP:F.size=d.size+1+1:=by rw[<-G];rfl
 have eS:Nb d F:=by rw[<-G];exact⟨(((Nb.refl b8).cons _).cons _).ok,λa k=>((((Nb.refl b8).cons _).cons _).get a k).trans (fU d a)⟩
 have cb:F.get d.size=some ⟨7,0,0,true,false,[h.t]⟩:=by rw[<-G];simp
 have ce:F.get (d.size+1)=some ⟨7,0,0,true,false,[.agg [.dq [] false,.int .i64 0,.dq [] false,.dq [] false,.dq [] false,.dq [] false,.dq [] false]]⟩:=by rw[<-G];simp
 clear G
 refine kA FB (by simp) h.fW ⟨rfl,eX,p1,p2,p3,p4⟩ ?_
 rintro _ b ⟨s,u,v,fv,rfl,K,E⟩
 have gy:=E.ok.sz
 have dd:gh 0 b:=⟨E.ok.hp,E.ok.low,aw _⟩
 have a1:=(E.get d.size (by omega)).trans cb
 have a2:=(E.get (d.size+1) (by omega)).trans ce
 obtain⟨Z,W,bn,⟨gn,gv,bp⟩,ef,U,okB⟩:=kj (cx:=cx) (sz:=1) dd (x:=sl (h.cells.map (T.int .i64))) (xs:=h.cells.map (T.int .i64)) oG rfl zl oG rfl rfl (by simp) (by simp) (by simp[T.cells]) (by simp;omega)
 obtain⟨ae,M,Y,⟨gp,gw,al⟩,fl,I,b7⟩:=kj (cx:=cx) (sz:=1) okB (x:=sl (h.dR.map (T.int .i64))) (xs:=h.dR.map (T.int .i64)) oG rfl zl oG rfl rfl (by simp) (by simp) (by simp[T.cells]) (by simp;omega)
 have cX:∀a,a<b.size->dY (b.cons ⟨1,0,0,true,false,[]⟩) W a=true:=λa k=>ee ((U a k).trans (by rw[dH,ao (by omega)]))
 have c1:∀a,a<W.size->dY (W.cons ⟨1,0,0,true,false,[]⟩) M a=true:=λa k=>ee ((I a k).trans (by rw[dH,ao (by omega)]))
 have dn:=ee (E.get d.size (by omega))
 have dv:=cX d.size (by omega)
 have e0:=c1 d.size (by omega)
 have ea:∀a,b.size+1<=a->dY (b.cons ⟨1,0,0,true,false,[]⟩) W a=true:=λa k=>jq (mZ _ (by simp;omega))
 have eb:∀a,b.size+2<=a->dY (W.cons ⟨1,0,0,true,false,[]⟩) M a=true:=λa k=>jq (mZ _ (by simp;omega))
 have ca:∀a,b.size<=a->dY F b a=true:=λa k=>jq (mZ _ (by omega))
 have bk:=(U d.size (by omega)).trans a1
 have cp:=(I d.size (by omega)).trans bk
 have cL:=(I (d.size+1) (by omega)).trans ((U (d.size+1) (by omega)).trans a2)
 have gi:=dd.low
 have gj:=okB.low
 have gk:=b7.low
 simp only[aH]at bn Y bp al
 rw[ef]at Y al
 have fb:(d.size=b.size)=False:=by simp;omega
 have gz:(d.size+1=b.size)=False:=by simp;omega
 have fe:(d.size=b.size+1)=False:=by simp;omega
 have gB:(d.size+1=b.size+1)=False:=by simp;omega
 have ds:=ca (b.size+1+1) (by omega)
 have eI:s.fT=true/\s.cells=[s]/\u.fT=true/\u.cells=[u]/\v.fT=true/\v.cells=[v]:=⟨K.g0.fT,K.g0.cells,K.g2.fT,K.g2.cells,K.g3.fT,K.g3.cells⟩
 obtain⟨et,eu,ey,eA,eB,eC⟩:=eI
 simp[LJ,a1,bn,Y,ef,fl,bk,dn,dv,ca,ea,eb,fb,fe,ds]
 have gm:d.size+1<b.size+1+1:=by omega
 have fo:M.size=b.size+1+1:=by omega
 generalize R:M.cons ⟨7,0,0,true,false,_⟩=Q
 have e9:Q.size=b.size+1+1+1:=by rw[<-R];simp[size_cons,fo]
 have eW:gh 0 Q:=by rw[<-R];exact gh.cons ⟨b7.hp,b7.low,aw _⟩ _
 have bs:Q.get (b.size+1+1)=some ⟨7,0,0,true,false,[.agg [.dq [] false,.int .i64 0,.dq [] false,.dq [] false,.dq [] false,.dq [] false,.dq [] false]]⟩:=by
  rw[<-R,dH,aq (by omega)]
 have c9:∀a,a<b.size+1+1->Q.get a=M.get a:=λa k=>by rw[<-R,dH,ao (by omega)]
 generalize S:dI Q _ _=D
 have gM:D.size=b.size+1+1+1:=by rw[<-S,fc,e9]
 have di:gh 0 D:=by rw[<-S];exact eW.put _ _
 have eD:=(show D.get (b.size+1+1)=some ⟨7,0,1,true,false,[.agg [s,.int .i64 h.fW.tx,u,v,.arr b.size Z 0 h.cells.length false,.arr (b.size+1) ae 0 h.dR.length false,.dq [] false]]⟩by rw[<-S];exact(dy bs _ _).trans (aq rfl))
 have J:∀a,a<b.size+1+1->D.get a=M.get a:=λa k=>by rw[<-S,dy bs,ao (by omega)];exact c9 a k
 clear S R
 have bu:Gr D (.arr b.size Z 0 h.cells.length false) 1 (fD h.cells):=by
  have:=Gr.new (((J b.size (by omega)).trans (I b.size (by omega))).trans bp);simpa using this
 have bv:Gr D (.arr (b.size+1) ae 0 h.dR.length false) 1 (fD h.dR):=by
  have:=Gr.new ((J (b.size+1) (by omega)).trans al);simpa using this
 have eR:Nb d D:=⟨⟨di.hp,di.low,by omega⟩,λa k=>(J a (by omega)).trans ((I a (by omega)).trans ((U a (by omega)).trans ((E.get a (by omega)).trans (eS.get a k))))⟩
 have eh:=(J d.size (by omega)).trans cp
 have eo:=(J (d.size+1) (by omega)).trans cL
 have X:∀a,dE (.arr b.size Z 0 h.cells.length false)=some a->a=b.size:=λa i=>by simpa using i.symm
 have N:∀a,dE (.arr (b.size+1) ae 0 h.dR.length false)=some a->a=b.size+1:=λa i=>by simpa using i.symm
 generalize T.arr b.size Z 0 h.cells.length false=B at*
 generalize T.arr (b.size+1) ae 0 h.dR.length false=C at*
 have a6:∀a,dE B=some a->d.size<=a/\a<b.size+1+1+1:=λa i=>by have:=X a i;omega
 have a7:∀a,dE C=some a->d.size<=a/\a<b.size+1+1+1/\dE B≠some a:=λa i=>⟨by have:=N a i;omega,by have:=N a i;omega,λb9=>by have:=X a b9;have:=N a i;omega⟩
 have dk:∀a,dE B=some a->a≠b.size+1+1/\a≠d.size+1:=λa i=>by have:=X a i;omega
 have dm:∀a,dE C=some a->a≠b.size+1+1/\a≠d.size+1:=λa i=>by have:=N a i;omega
 clear X N bn Y bp al dn dv e0 ca ea eb ds U I cX c1 bk cp cL a1 a2 cb ce J c9 bs
 generalize b.size+1+1=i at*
 have fA:=bu.fT
 have fB:=bu.cells
 have fC:=bv.fT
 have fE:=bv.cells
 refine mF h.dp.length (λo L h'=>∃p P aX aE V,Cq h d s u v B C i h' o p P aX aE V/\TI.dt L 1=some (.ptr d.size 0 0 0)/\TI.dt L 2=some (.ptr (d.size+1) 0 0 0)/\TI.dt L 3=some (.ptr i 0 0 0)/\TI.dt L 4=some (.int .i64 o)) ?_ (by omega) (aw _) ?_
 ·rintro o L h' fY ⟨p,P,aX,aE,V,f,bz,c4,av,bB⟩
  simp[bz,bB,f.b1]
  refine dM (λbN=> ?_) (λbN=> ?_)
  ·have bT:o<h.dp.length:=by simpa using bN
   obtain⟨m,aN⟩:∃m,h.dp[o]? =some m:=⟨_,aB bT⟩
   have eL:h.dp[o]=m:=by rw[aB bT]at aN;simpa using aN
   have b6:=eP m (az aN)
   simp[bz,av,bB,f.b1,f.b3,bT,eL]
   have eV:gh 0 h':=⟨f.nb.ok.hp,f.nb.ok.low,aw _⟩
   refine kA FC (by simp) ⟨m,sl (fD m.iq),sl (m.jD.map XU),m.jD.map XU⟩ ⟨by rfl,⟨.inl rfl,.inl rfl,?_,?_⟩,eV,b6.1,b6.2.1,b6.2.2⟩ ?_
   ·exact GZ (λl=> .inl rfl) _
   ·rintro e a (rfl|rfl|he) x
    ·simp at x
    ·simp at x
    ·obtain⟨l,_,rfl⟩:=List.mem_map.1 he;simp[XU]at x
   rintro _ ap ⟨r,A,fs,rfl,e8,q⟩
   have b9:i+1<=h'.size:=by have:=H.dL f.b3;omega
   have p3:=(q.get i (by omega)).trans f.b3
   have eE:Gr ap p 4 P:=f.th.g.mono λa x=>q.get a (by obtain⟨_,_,_,_,g,_⟩:=f.th.g.box x;exact H.dL g)
   obtain⟨a8,aA,er,z⟩:=eE.uP (cx:=cx) ⟨q.ok.hp,q.ok.low,aw _⟩ NV rfl JC rfl (by simp) (x:=zU m r A) rfl (by have:=f.th.l;simp at this;simp;omega)
   have e6:=ee (q.get i (by omega))
   have e5:∀a,a<ap.size->dE p≠some a->dY (ap.cons ⟨4,0,0,true,false,[zU m r A]⟩) aA a=true:=λa k bX=>ee ((z.2.1 a k bX).trans (by rw[dH,ao (by omega)]))
   have bi:dE p≠some i:=λx=>by have:=(f.th.c i x).1;omega
   have e4:=e5 i (by have:=q.ok.sz;omega) bi
   have p4:=(z.2.1 i (by have:=q.ok.sz;omega) bi).trans p3
   have eF:(zU m r A).fT=true/\(zU m r A).cells=[.int .i64 m.pC,r,A,.int .i64 m.dw]:=by simp[zU,T.cells]
   have fL:zU m r A= .agg [.int .i64 m.pC,r,A,.int .i64 m.dw]:=rfl
   simp[av,bB,er,e6,eF,e4,p4,z.1.fT,z.1.cells,dG]
   rw[fQ (by omega) (by omega)]
   simp
   refine⟨o+1,by omega,by omega,⟨a8,P++[zU m r A],λw=>if w=(h.dp.take o).length then h'.size else aX w,λw=>if w=(h.dp.take o).length then ap.size else aE w,V+1,?_⟩,bz,c4,av,by simp⟩
   have gE:=z.2.2.2.sz
   have gI:=q.ok.sz
   have gq:∀a,a<h'.size->a≠i->dE p≠some a->(dI aA i ⟨7,0,V+1,true,false,[.agg [s,.int .i64 h.fW.tx,u,v,B,C,a8]]⟩).get a=h'.get a:=λa k eN bX=>by
    rw[dy p4,ao eN,z.2.1 a (by omega) bX,q.get a k]
   have O:∀a,a<=i->dE p≠some a:=λa k x=>by have:=(f.th.c a x).1;omega
   have de:gh 0 aA:=⟨z.2.2.2.hp,z.2.2.2.low,aw _⟩
   refine⟨⟨⟨(de.put _ _).hp,(de.put _ _).low,by rw[fc];have:=f.nb.ok.sz;omega⟩,λa k=>(gq a (by omega) (by omega) (O a (by omega))).trans (f.nb.get a k)⟩,
    (gq _ (by omega) (by omega) (O _ (by omega))).trans f.b1,(gq _ (by omega) (by omega) (O _ (by omega))).trans f.b2,(dy p4 _ _).trans (aq rfl),
    f.gc.mono λa x=>gq a (by have:=a6 a x;omega) (dk a x).1 (O a (by have:=a6 a x;omega)),f.gf.mono λa x=>gq a (by have:=a7 a x;omega) (dm a x).1 (O a (by have:=a7 a x;omega)),?_⟩
   have e7:=(f.th.app b9 q e8 z).mono (h':=dI aA i ⟨7,0,V+1,true,false,[.agg [s,.int .i64 h.fW.tx,u,v,B,C,a8]]⟩) (by rw[fc];exact au _) λa x _=>by rw[dy p4,ao (by omega)]
   have eO:h.dp.take (o+1)=h.dp.take o++[m]:=by rw[List.take_add_one,aN];rfl
   rw[eO]
   exact e7
  ·have eH:o=h.dp.length:=by
    have:¬o<h.dp.length:=by simpa using bN
    omega
   subst eH
   have c6:=f.th
   rw[aQ]at c6
   have bi:∀a,dE p=some a->i+1<=a:=λa x=>(f.th.c a x).1
   simp[c4,av,f.b2,f.b3,dG,dy f.b2]
   have an:∀a,a≠d.size+1->(kV d (dI h' (d.size+1) ⟨7,0,1,true,false,[.agg [s,.int .i64 h.fW.tx,u,v,B,C,p]]⟩)).get a=h'.get a:=λa k=>by rw[fj,dy f.b2,ao k]
   refine⟨s,u,v,B,C,p,P,aX,aE,i+1,rfl,⟨⟨((gh.put (n:=0) ⟨f.nb.ok.hp,f.nb.ok.low,aw _⟩ _ _).out d).hp,((gh.put (n:=0) ⟨f.nb.ok.hp,f.nb.ok.low,aw _⟩ _ _).out d).low,by rw[u7,fc];exact f.nb.ok.sz⟩,λa k=>(an a (by omega)).trans (f.nb.get a k)⟩,by omega,by rw[u7,fc];exact H.dL f.b3,⟨et,eu,ey,eA,eB,eC⟩,
    f.gc.mono λa x=>an a (dk a x).2,f.gf.mono λa x=>an a (dm a x).2,a6,a7,c6.mono (by rw[u7,fc];exact au _) λa x _=>an a (by omega)⟩
 ·refine⟨.dq [] false,[],λ_=>0,λ_=>0,1,⟨eR,eh,eo,eD,bu,bv,⟨Gr.nil _ _,rfl,λw e m x=>by simp at x,λw x=>by simp at x,λw j x y=>by simp at y,λa x=>by simp at x⟩⟩,by simp⟩
end
noncomputable section
open Go Go.TI
def EF{b a:Type}(e:b->a->Bool)(f:List a->a->Bool)(d:b->a->b):List a->b->List a->Bool
 |_,_,[]=>true
 |pre,g,c::h=>(e g c&&f pre c)&&EF e f d (pre++[c]) (d g c) h
theorem Ld{c a:Type}{g:c->a->Bool}{j:List a->a->Bool}{f:c->a->c}:∀(b h:List a) (e:c),EF g j f h e b=true->qr g f e b=true:=by
 intro b
 induction b with
 |nil=>intro _ _ _;rfl
 |cons k b i=>
  intro h e d
  simp only[EF,ay]at d
  simp only[qr,ay]
  exact⟨d.1.1,i _ _ d.2⟩
def O7(b:List dN)(a:dN):Bool:=ut b a.dA a.mt&&ut b a.dA a.uI
def oL(a:dJ)(b:List dN):Bool:=decide (b.length<=400)&&jN a&&EF (qC a) O7 (mm a) [] (jE a) b
theorem xO{b:dJ}{c:List dN}(a:oL b c=true):runs b (jE b) c=true/\b.dp.length<=4/\c.length<=400:=by
 unfold oL at a
 simp only[ay,aL]at a
 refine⟨Ld _ _ _ a.2,?_,a.1.1⟩
 have d:=a.1.2
 unfold jN rj at d
 simp only[ay,aL]at d
 omega
structure ui(N:Nat)(s:dW):Prop where
 l:s.fW.dP.length<=1000/\s.fW.done.length<=1000/\s.fW.dp.length<=1000/\s.cells.length<=1000/\s.dR.length<=1000/\s.count.length<=1000
 r:∀l∈s.fW.dP,l.dQ.length<=N
 a:s.fW.Dc
 c:∀c∈s.count,-N<=c/\c<=N
theorem ui.up{f e:Nat}{g:dW}(b:ui f g)(j:f<=e):ui e g:=⟨b.l,λi d=>by have:=b.r i d;omega,b.a,λh d=>by have:=b.c h d;omega⟩
theorem Us{b:Nat}{c:ej}{i:Int}{d:dF->dF}(e:∀a∈c.dP,a.dQ.length<=b)(g:∀a∈c.dP,(d a).dQ.length<=b+1):∀a∈(c.pA i d).dP,a.dQ.length<=b+1:=by
 intro a hl
 rcases mem_modify hl with f|⟨j,h,rfl⟩
 ·have:=e a f;omega
 ·exact g j h
theorem Lp{d:Nat}{j:ej}(k:∀a∈j.dP,a.dQ.length<=d)(p:dJ)(h m n q:Int):∀a∈(dV p j h m n q).1.dP,a.dQ.length<=d+1:=by
 have c:∀a∈j.dP,a.dQ.length<=d+1:=λa o=>by have:=k a o;omega
 have l:∀(f:Int) (b:dF->dF),(∀a,(b a).dQ=a.dQ\/(b a).dQ=lf a.dQ h\/(b a).dQ=a.dQ.filter λg=> !decide (g=h))->∀a∈(j.pA f b).dP,a.dQ.length<=d+1:=λf b i=>Us k λa hl=>by
  have r:=k a hl
  rcases i a with e|e|e<;>rw[e]
  ·omega
  ·have:=FY a.dQ h;omega
  ·have:=List.length_filter_le (λg=> !decide (g=h)) a.dQ;omega
 exact tV (P:=λg=>∀a∈g.1.dP,a.dQ.length<=d+1) c c (λ_ _ _=>c) (λf b i=>⟨l f b i,λ_ _=>l f b i⟩) (λ_=>c) (λ_ _=>c) (λ_=>c)
theorem J8(a:Nat):ui a s7:=⟨by simp[s7],by simp[s7],by intro b hl;simp[s7]at hl,by simp[s7]⟩
theorem ui.step{e:Nat}{f:dW}(d:ui e f)(h:dJ)(b:dN):ui (e+1) (jO h f b).1:=by
 unfold jO
 split
 ·have hl:=BV h f.fW b.dA b.kind b.obj (kI b)
  obtain⟨l1,l2,l3,l4,l5,l6⟩:=d.l
  refine⟨⟨by show(dV ..).1.dP.length<=_;omega,by show(dV ..).1.done.length<=_;omega,by show(dV ..).1.dp.length<=_;omega,?_,?_,?_⟩,Lp d.r _ _ _ _ _,wX d.a _ _ _ _ _,λg i=> ?_⟩
  ·unfold mm;simp only;split<;>simp[l4]
  ·unfold mm;simp only;split<;>simp[l5]
  ·unfold mm;simp[l6]
  ·rcases mem_modify (show g∈f.count.modify b.dA.toNat (· +1)from i)with k|⟨m,j,rfl⟩
   ·have:=d.c g k;omega
   ·have:=d.c m j;omega
 ·exact(J8 e).up (Nat.le_succ e)
theorem ui.uh{w:dJ}:∀(a:List dN) {b:Nat} {c:dW},ui b c->ui (b+a.length) (uh w c a):=by
 intro a
 induction a with
 |nil=>intro b c d;exact d
 |cons e a f=>
  intro b c d
  have:=f (d.step w e)
  rw[show b+1+a.length=b+(e::a).length by simp;omega]at this
  exact this
theorem wu(a:dJ)(d:a.dP.length<=1000/\a.dR.length<=1000/\a.dp.length<=1000/\a.cells.length<=1000):ui 0 (jE a):=by
 refine⟨by simp[jE,kF];omega,λe hl=> ?_,um a,λc b=> ?_⟩
 ·simp[jE,kF]at hl
  obtain⟨_,rfl⟩:=hl;simp
 ·simp[jE]at b
  omega
def G6(c:Nat)(d:ej):Prop:=∀b∈d.dP,∀a∈b.dQ,0<=a/\a<c
theorem G6.pA{b:Nat}{c:ej}(f:G6 b c){i:Int}{d:dF->dF}(g:∀a∈c.dP,∀e∈(d a).dQ,0<=e/\e<b):G6 b (c.pA i d):=by
 intro a hl
 unfold ej.pA at hl
 rcases mem_modify hl with j|⟨k,h,rfl⟩
 ·exact f a j
 ·exact g k h
theorem BU{f:Nat}{k:ej}(b:G6 f k)(q:dJ){g:Int}(ht:0<=g/\g<f)(n o r:Int):G6 f (dV q k g n o r).1:=by
 have m:∀(d:Int) (c:dF->dF),(∀a,(c a).dQ=a.dQ\/(c a).dQ=lf a.dQ g\/(c a).dQ=a.dQ.filter λj=> !decide (j=g))->G6 f (k.pA d c):=λd c h=>b.pA λa hl l i=>by
  rcases h a with e|e|e<;>rw[e]at i
  ·exact b a hl l i
  ·rcases Be i with p|rfl
   ·exact b a hl l p
   ·exact ht
  ·exact b a hl l (List.mem_filter.1 i).1
 exact tV (P:=λj=>G6 f j.1) b b (λ_ _ _=>b) (λd c h=>⟨m d c h,λ_ _=>m d c h⟩) (λ_=>b) (λ_ _=>b) (λ_=>b)
theorem J0{b:dJ}{e:Nat}(j:b.dp.length<=e):∀(c:List dN) (a:dW),runs b a c=true->G6 e a.fW->G6 e (uh b a c).fW:=by
 intro c
 induction c with
 |nil=>intro a _ f;exact f
 |cons d c h=>
  intro a hr f
  have hr:(qC b a d&&runs b (mm b a d) c)=true:=hr
  rw[ay]at hr
  have g:=rZ a d hr.1
  show G6 e (uh b (jO b a d).1 c).fW
  rw[g]
  obtain⟨_,i,_⟩:=sw hr.1
  have:=ed.1 i
  exact h _ hr.2 (BU f b (by omega) _ _ _)
theorem G6.len{b:Nat}{c:ej}(d:G6 b c)(e:c.Dc):∀a∈c.dP,a.dQ.length<=b:=λa hl=>by
 have:=JY a.dQ 0 b (e a hl) (d a hl)
 omega
theorem yU(a:Nat)(b:dJ):G6 a (jE b).fW:=by
 intro c hl
 unfold jE kF at hl
 simp only[List.mem_map]at hl
 obtain⟨_,_,rfl⟩:=hl
 simp
end
noncomputable section
open Go Go.TI
attribute [-simp] List.map_take List.map_drop List.map_append fi ei dT Bool.not_or Bool.not_and
attribute [simp] fh ew
attribute [-simp] size_cons
theorem OL{j:Out}{e f:gU}(o:W j e)(q:∀d h,e.n d h->f.n d h)(v:∀i d h,e.x i d h->f.x i d h)(u:∀d h,e.r d h->f.r d h):W j f:=by
 obtain⟨l,d,h,m,g⟩:=o
 refine⟨l,d,h,m,?_⟩
 cases l with
 |normal=>exact q d h g
 |exit i=>exact v i d h g
 |ret=>exact u d h g
theorem O6{cx:Ctx}{cf:ir}{z y id:Nat}{u:DL}{t:Bool}{a b:Code}{m:Env->H->Out}{d:Env}{h:H}{f:gU}(l:eZ->H->Prop)(v:CK (some (.bool t)) cx cf z y u a b d h (DJ m (qI id (wK (λd h=>d.tmps= .nil/\l d.vars h) f))))
 (B:∀o h,l o h->f.n ⟨o,.nil⟩ h):CK (some (.bool t)) cx cf z y u a b d h (DJ m (qI id f)):=by
 have q:∀d h,(d.tmps= .nil/\l d.vars h)->f.n d h:=λd h ⟨e,w⟩=>by obtain⟨o,C⟩:=d;simp only at e w;subst e;exact B o h w
 have A:∀g,W g (qI id (wK (λd h=>d.tmps= .nil/\l d.vars h) f))->W g (qI id f):=λg r=>OL r q (λi d h e=>by
  rw[xv]at e|-
  split
  ·rename_i j;rw[aq j]at e;exact q d h e
  ·rename_i j;rw[ao j]at e;exact e) λ_ _ e=>e
 have x:∀g,W g (DJ m (qI id (wK (λd h=>d.tmps= .nil/\l d.vars h) f)))->W g (DJ m (qI id f)):=λg r=>OL r (λd h e=>A _ e) (λi d h e=>by
  rw[Ut,xv]at e|-
  split
  ·rename_i j;rw[aq j]at e;exact q d h e
  ·rename_i j;rw[ao j]at e;exact e) λ_ _ e=>e
 cases t
 ·exact x _ v
 ·exact x _ v
structure StI(s:gJ):Prop where
 l:s.fW.dP.length<=1000/\s.fW.done.length<=1000/\s.fW.dp.length<=1000/\s.cells.length<=1000/\s.dR.length<=1000/\s.dp.length<=1000
 r:G6 4 s.fW
 a:s.fW.Dc
 t:∀t∈s.dp,S8 1000000 t
def UP(d:Nat)(s:gJ):Prop:=∀t∈s.dp,0<=t.dw/\t.dw<=d
def XX(s:gJ)(j:T):Prop:=∃(d:gJ) (f:dN) (g:Bool),j= .tuple [d.t,f.t,.bool g]/\evN 1000000 f/\(g=true->StI d/\∀e:Nat,UP e s->UP (e+1) d)
theorem zo.Jp{lo l hi j:Nat}{h h':H}{a b:T}{es:List T}{s:dK}(t:zo lo hi h a b es s)(hl:l<=lo)(r:hi<=j)(f:∀e,(e=a\/e=b\/e∈es)->∀c,dE e=some c->h'.get c=h.get c):zo l j h' a b es s:=
 ⟨t.ga.mono λc d=>f a (.inl rfl) c d,t.gb.mono λc d=>f b (.inr (.inl rfl)) c d,t.el.imp_mem λm n u d=>⟨d.1.mono λc g=>f m (.inr (.inr n)) c g,λc g=>by
   obtain⟨v,w,o,q⟩:=d.2 c g;exact⟨by omega,by omega,o,q⟩⟩,λc d=>by have:=t.ba c d;exact⟨by omega,by omega,this.2.2⟩,λc d=>by have:=t.bb c d;exact⟨by omega,by omega⟩⟩
theorem zo.fzB{lo hi:Nat}{h:H}{a b:T}{es:List T}{s:dK}(t:zo lo hi h a b es s)(o:Nat->Prop)(n:∀m,(m=a\/m=b\/m∈es)->∀c,dE m=some c->o c):gG (FT h o 3) [.int .i64 s.pC,a,b,.int .i64 s.dw] s.cs:=
 .cons (fJ ..) (.cons ((show nz h 1 a (fD s.iq)from .inr t.ga).ft (d:=1) (FW _) λc g=>n a (.inl rfl) c g)
  (.cons (t.gb.ft (λc g=>n b (.inr (.inl rfl)) c g) ((t.el.imp_mem (R':=λe j=>nz h 1 e (fD j)/\e∈es) λe q j l=>⟨l.1,q⟩).Ul (f:=λj=>sl (fD j)) λe j l=>l.1.ft (d:=0) (FW _) λc g=>n e (.inr (.inr l.2)) c g)) (.cons (fJ ..) .nil)))
theorem Am{g j:Type}{l:g->j->Prop}:∀{e:List g} {f:List j},e.length=f.length->(∀(d:Nat) (a:g) (b:j),e[d]? =some a->f[d]? =some b->l a b)->gG l e f
 | [],[],_,_=> .nil
 |a::e,b::f,hl,h=> .cons (h 0 a b rfl rfl) (Am (by simpa using hl) λd o q m n=>h (d+1) o q (by simpa using m) (by simpa using n))
 | [],_::_,hl,_=>by simp at hl
 |_::_,[],hl,_=>by simp at hl
structure SJ(c:jh)(s:gJ)(ch:iD)(i:fa)(S:ej)(k p n0:Nat)(cc cf ct:T)(es:List T)(lo hi:Nat->Nat)(a b:T)(el:List T)(t:dK)(h:H):Prop where
 ok:gh 0 h
 z:p+1+1<=h.size
 n7:7<=n0
 np:n0<=p
 b0:h.get 0=some ⟨7,0,0,true,false,[c.t]⟩
 b1:h.get 1=some ⟨7,0,2,true,false,[.agg [sl (S.dP.map dF.t),.int .i64 S.tx,sl (S.done.map T.bool),sl (S.dp.map dx.t),cc,cf,ct]]⟩
 b2:h.get 2=some ⟨2,0,0,true,false,[ch.t]⟩
 b3:h.get 3=some ⟨7,0,0,true,false,[.agg [.dq [] false,.int .i64 0,.dq [] false,.dq [] false,.dq [] false,.dq [] false,.dq [] false]]⟩
 b4:h.get 4=some ⟨7,0,0,true,false,[.agg [.int .i64 0,.int .i64 0,.int .i64 0,.int .i64 0,.int .i64 0,.dq [] false,.dq [] false]]⟩
 bq:h.get (p+1)=some ⟨6,0,1,true,false,[i.t]⟩
 gc:∃l,Gr h cc 1 (fD l)/\l.length=s.cells.length
 gf:∃l,Gr h cf 1 (fD l)/\l.length=s.dR.length
 bc:∀c,dE cc=some c->7<=c/\c<n0
 bf:∀c,dE cf=some c->7<=c/\c<n0/\dE cc≠some c
 gt:Gr h ct 4 es
 l:es.length=s.dp.length
 m:∀j,j<s.dp.length->n0<=lo j/\hi j<=p
 d:∀i j,i<j->j<s.dp.length->hi i<=lo j
 bt:∀c,dE ct=some c->n0<=c/\c<p/\∀j,j<s.dp.length->¬(lo j<=c/\c<hi j)
 o:∀(j:Nat) (e:T) (u:dK),j≠k->es[j]? =some e->s.dp[j]? =some u->FT h (λc=>lo j<=c/\c<hi j) 4 e u.t
 hk:k<s.dp.length
 ek:∃x y,es[k]? =some (.agg [.int .i64 x,a,b,.int .i64 y])
 tx:zo 7 h.size h a b el t
 xb:∀v,(v=a\/v=b\/v∈el)->∀c,dE v=some c->lo k<=c/\(c<hi k\/p+1<c)
section
variable {c:jh}{s:gJ}{ch:iD}{i:fa}{S:ej}{k p n0:Nat}{cc cf ct:T}{es:List T}{lo hi:Nat->Nat}{a b:T}{el LA:List T}{t t':dK}{h h':H}
theorem SJ.gen(e:SJ c s ch i S k p n0 cc cf ct es lo hi a b el t h)(K:gh 0 h')(U:h.size<=h'.size)(u:∀c,c<h.size->c≠5->c≠p->dE cc≠some c->dE cf≠some c->dE a≠some c->dE b≠some c->h'.get c=h.get c)
 (D:∃r,Gr h' cc 1 (fD r)/\r.length=s.cells.length) (E:∃r,Gr h' cf 1 (fD r)/\r.length=s.dR.length) (L:zo 7 h'.size h' a b LA t') (N:∀w,(w=a\/w=b\/w∈LA)->∀c,dE w=some c->lo k<=c/\(c<hi k\/p+1<c)):
 SJ c s ch i S k p n0 cc cf ct es lo hi a b LA t' h':=by
 have V:=e.z
 have I:=e.n7
 have J:=e.np
 have Q:=e.m k e.hk
 have v:∀q,q<7->dE cc≠some q/\dE cf≠some q/\dE a≠some q/\dE b≠some q:=λq g=>⟨λf=>by have:=e.bc q f;omega,λf=>by have:=e.bf q f;omega,λf=>by have:=(e.tx.ba q f).1;omega,λf=>by have:=(e.tx.bb q f).1;omega⟩
 have n:∀q,q<7->q≠5->h'.get q=h.get q:=λq g F=>u q (by omega) F (by omega) (v q g).1 (v q g).2.1 (v q g).2.2.1 (v q g).2.2.2
 have j:∀q,dE a=some q\/dE b=some q->lo k<=q/\(q<hi k\/p+1<q):=λq f=>f.elim (λf=>e.xb a (.inl rfl) q f) λf=>e.xb b (.inr (.inl rfl)) q f
 refine⟨K,by omega,I,J,(n 0 (by omega) (by omega)).trans e.b0,(n 1 (by omega) (by omega)).trans e.b1,(n 2 (by omega) (by omega)).trans e.b2,(n 3 (by omega) (by omega)).trans e.b3,(n 4 (by omega) (by omega)).trans e.b4,?_,D,E,e.bc,e.bf,e.gt.mono λq f=> ?_,e.l,e.m,e.d,e.bt,λi C M x G A=> ?_,e.hk,e.ek,L,N⟩
 ·refine(u (p+1) (by omega) (by omega) (by omega) (λf=> ?_) (λf=> ?_) (λf=> ?_) λf=> ?_).trans e.bq
  ·have:=e.bc _ f;omega
  ·have:=e.bf _ f;omega
  ·have:=j _ (.inl f);omega
  ·have:=j _ (.inr f);omega
 ·have B:=e.bt q f
  have R:=B.2.2 k e.hk
  refine u q (by omega) (by omega) (by omega) (λf=> ?_) (λf=> ?_) (λf=> ?_) λf=> ?_
  ·have:=e.bc _ f;omega
  ·have:=e.bf _ f;omega
  ·have:=j _ (.inl f);omega
  ·have:=j _ (.inr f);omega
 ·have y:i<s.dp.length:=(List.getElem?_eq_some_iff.1 A).1
  have P:=e.m i y
  have O:hi i<=lo k\/hi k<=lo i:=by
   rcases Nat.lt_or_gt_of_ne x with q|q
   ·exact .inl (e.d i k q e.hk)
   ·exact .inr (e.d k i q y)
  refine(e.o i C M x G A).mono λq g=>⟨g,u q (by omega) (by omega) (by omega) (λf=> ?_) (λf=> ?_) (λf=> ?_) λf=> ?_⟩
  ·have:=e.bc _ f;omega
  ·have:=e.bf _ f;omega
  ·have:=j _ (.inl f);omega
  ·have:=j _ (.inr f);omega
theorem SJ.mono(d:SJ c s ch i S k p n0 cc cf ct es lo hi a b el t h)(y:gh 0 h')(l:h.size<=h'.size)(g:∀c,c<h.size->c≠5->c≠p->h'.get c=h.get c):SJ c s ch i S k p n0 cc cf ct es lo hi a b el t h':=by
 have F:=d.z
 have D:=d.n7
 have E:=d.np
 have C:=d.m k d.hk
 obtain⟨l1,q,n⟩:=d.gc
 obtain⟨l2,r,o⟩:=d.gf
 refine d.gen y l (λc u v w _ _ _ _=>g c u v w) ⟨l1,q.mono λe f=> ?_,n⟩ ⟨l2,r.mono λe f=> ?_,o⟩ (d.tx.Jp (au _) l λB j e f=> ?_) d.xb
 ·have:=d.bc e f;exact g e (by omega) (by omega) (by omega)
 ·have:=d.bf e f;exact g e (by omega) (by omega) (by omega)
 ·have:=d.xb B j e f
  have x:e<h.size:=by
   rcases j with rfl|rfl|j
   ·exact(d.tx.ba e f).2.1
   ·exact(d.tx.bb e f).2
   ·obtain⟨_,A⟩:=d.tx.el.left j;exact(A.2 e f).2.1
  exact g e x (by omega) (by omega)
theorem SJ.cell(e:SJ c s ch i S k p n0 cc cf ct es lo hi a b el t h){f n q:Nat}{o:Bool}{u:List T}(v:dE cc=some f)(w:h.get f=some ⟨1,n,q,o,false,u⟩)(g:Nat)(j:Int):SJ c s ch i S k p n0 cc cf ct es lo hi a b el t (dI h f ⟨1,n,q+1,o,false,u.set g (.int .i64 j)⟩)/\∀d,d=5\/d=p->(dI h f ⟨1,n,q+1,o,false,u.set g (.int .i64 j)⟩).get d=h.get d:=by
 have I:=e.n7
 have J:=e.np
 have F:=e.bc f v
 have G:=e.m k e.hk
 obtain⟨l1,A,y⟩:=e.gc
 obtain⟨l2,B,z⟩:=e.gf
 have l:∀d,(dI h f ⟨1,n,q+1,o,false,u.set g (.int .i64 j)⟩).get d=if d=f then some ⟨1,n,q+1,o,false,u.set g (.int .i64 j)⟩else h.get d:=λd=>dy w _ d
 refine⟨e.gen (e.ok.put _ _) (by rw[fc];exact au _) (λd _ _ _ C _ _ _=>(l d).trans (ao λr=>C (by rw[r];exact v))) ⟨l1.set g j,?_,by simpa using y⟩ ⟨l2,B.mono λd r=>(l d).trans (ao λx=>(e.bf d r).2.2 (by rw[x];exact v)),z⟩ (e.tx.Jp (au _) (by rw[fc];exact au _) λE D d r=>(l d).trans (ao λx=> ?_)) e.xb,λd hr=>(l d).trans (ao (by omega))⟩
 ·have:=A.setAt v w g (.int .i64 j) ((l f).trans (aq rfl))
  simpa[fD,bV]using this
 ·have:=e.xb E D d r;omega
theorem SJ.fut(e:SJ c s ch i S k p n0 cc cf ct es lo hi a b el t h){f n q:Nat}{o:Bool}{u:List T}(v:dE cf=some f)(w:h.get f=some ⟨1,n,q,o,false,u⟩)(g:Nat)(j:Int):SJ c s ch i S k p n0 cc cf ct es lo hi a b el t (dI h f ⟨1,n,q+1,o,false,u.set g (.int .i64 j)⟩)/\∀d,d=5\/d=p->(dI h f ⟨1,n,q+1,o,false,u.set g (.int .i64 j)⟩).get d=h.get d:=by
 have I:=e.n7
 have J:=e.np
 have y:=e.bf f v
 have G:=e.m k e.hk
 obtain⟨l1,B,z⟩:=e.gc
 obtain⟨l2,C,A⟩:=e.gf
 have l:∀d,(dI h f ⟨1,n,q+1,o,false,u.set g (.int .i64 j)⟩).get d=if d=f then some ⟨1,n,q+1,o,false,u.set g (.int .i64 j)⟩else h.get d:=λd=>dy w _ d
 refine⟨e.gen (e.ok.put _ _) (by rw[fc];exact au _) (λd _ _ _ _ D _ _=>(l d).trans (ao λr=>D (by rw[r];exact v))) ⟨l1,B.mono λd r=>(l d).trans (ao λx=>y.2.2 (by rw[<-x];exact r)),z⟩ ⟨l2.set g j,?_,by simpa using A⟩ (e.tx.Jp (au _) (by rw[fc];exact au _) λF E d r=>(l d).trans (ao λx=> ?_)) e.xb,λd hr=>(l d).trans (ao (by omega))⟩
 ·have:=C.setAt v w g (.int .i64 j) ((l f).trans (aq rfl))
  simpa[fD,bV]using this
 ·have:=e.xb F E d r;omega
end
theorem uD{d k:Int}(h:lO d=k)(f:k≠0):(k=3->d=6\/d=7)/\(k=4->d=8\/d=9)/\(k=5->d=10)/\(k=22->d=26)/\(k=23->d=27):=by
 have g:6<=d/\d<=28:=by
  unfold lO at h
  split at h
  ·exact absurd h.symm f
  ·omega
 have e:d=6\/d=7\/d=8\/d=9\/d=10\/d=11\/d=12\/d=13\/d=14\/d=15\/d=16\/d=17\/d=18\/d=19\/d=20\/d=21\/d=22\/d=23\/d=24\/d=25\/d=26\/d=27\/d=28:=by omega
 rcases e with rfl|rfl|rfl|rfl|rfl|rfl|rfl|rfl|rfl|rfl|rfl|rfl|rfl|rfl|rfl|rfl|rfl|rfl|rfl|rfl|rfl|rfl|rfl<;>simp[lO,vk]at h<;>omega
def He(p:Nat)(d:eZ):Prop:=TI.dt d 3=some (.ptr 0 0 0 0)/\TI.dt d 4=some (.ptr 1 0 0 0)/\TI.dt d 5=some (.ptr 2 0 0 0)/\TI.dt d 6=some (.ptr 3 0 0 0)/\TI.dt d 7=some (.ptr 4 0 0 0)/\TI.dt d 9=some (.ptr 5 0 0 0)/\TI.dt d 14=some (.ptr p 0 0 0)/\TI.dt d 15=some (.ptr (p+1) 0 0 0)
def Ev9(d:dN)(h:H):Prop:=∃e f,h.get 5=some ⟨7,0,f,true,false,[dN.t ⟨d.dA,d.kind,d.obj,e,d.iF,d.mt,d.uI⟩]⟩
def Th9(p:Nat)(a b:T)(e f:Int)(h:H):Prop:=∃d,h.get p=some ⟨4,0,d,true,false,[.agg [.int .i64 e,a,b,.int .i64 f]]⟩
theorem SJ.Ko{c:jh}{s:gJ}{ch:iD}{i:fa}{S:ej}{k p n0:Nat}{cc cf ct:T}{es:List T}{lo hi:Nat->Nat}{a b:T}{el:List T}{t:dK}{h:H}(e:SJ c s ch i S k p n0 cc cf ct es lo hi a b el t h){u:iE}(j:h.get 5=some u){l m:Int}(ht:Th9 p a b l m h)(d:dN)(f:Int)(g:Nat):
 SJ c s ch i S k p n0 cc cf ct es lo hi a b el t (dI h 5 ⟨7,0,g,true,false,[dN.t ⟨d.dA,d.kind,d.obj,f,d.iF,d.mt,d.uI⟩]⟩)/\Ev9 d (dI h 5 ⟨7,0,g,true,false,[dN.t ⟨d.dA,d.kind,d.obj,f,d.iF,d.mt,d.uI⟩]⟩)/\Th9 p a b l m (dI h 5 ⟨7,0,g,true,false,[dN.t ⟨d.dA,d.kind,d.obj,f,d.iF,d.mt,d.uI⟩]⟩):=by
 have v:=e.n7
 have w:=e.np
 obtain⟨r,o⟩:=ht
 exact⟨e.mono (e.ok.put _ _) (by rw[fc];exact au _) λq _ n _=>(dy j _ q).trans (ao n),⟨f,g,(dy j _ 5).trans (aq rfl)⟩,⟨r,(dy j _ p).trans ((ao (by omega)).trans o)⟩⟩
def aet(p:Nat)(ct:T)(m:Int)(h:H):Prop:=∃j d e l g n,h.get p=some ⟨4,0,n,true,false,[.agg [.int .i64 j,d,e,.int .i64 l]]⟩/\d.fT=true/\d.cells=[d]/\e.fT=true/\e.cells=[e]/\gG (FT h (λf=>f<h.size/\f≠p/\7<=f/\dE ct≠some f) 3) [.int .i64 j,d,e,.int .i64 l] (dK.cs g)/\S8 1000000 g/\(g.dw=m+1\/g.dw=0)
theorem Fl:nZ Tryz.prog cx 116 (λa:jh×gJ×iD=>[a.1.t,a.2.1.t,a.2.2.t]) (λa=>(∀x∈a.1.dp,x.iJ.length<=10000001)/\StI a.2.1/\UP 999000 a.2.1) (λa=>XX a.2.1):=by
 refine jk (tb:=⟨pt [(149,yr.jl),(107,rL)],ht [(163,jM gJ TT Mw),(164,jM VH Md AR)]⟩) dX dU (iN 12259964349774246101165194645239424850975965214878597119 [(41,[(1,2)])] Tryz.func116) (λ_=>100) (λa b h=>by simp at h;exact aR (jh.inj h.1) (aR (gJ.inj h.2.1) (iD.inj h.2.2))) (by simp) (by simp[Tryz.f116]) ?_
 rintro⟨c,s,ch⟩ ⟨gm,I,gk⟩ bk hn
 simp only at gm I gk
 simp at hn
 obtain⟨kk,al,an⟩:=hn
 have k9:XT 1000000 s:=λt ht l hl=>((I.t t ht).tn l hl).1
 obtain⟨_,⟨u,hL,rfl,k5,hC⟩,gZ⟩:=yr.use (c,s,ch.dA) ⟨gm,k9⟩
 simp only at gZ hC
 have hB:XX s (.tuple [gJ.t ⟨⟨[],0,[],[]⟩,[],[],[]⟩,dN.t ⟨0,0,0,0,0,[],[]⟩,.bool false]):=⟨_,_,_,rfl,⟨by simp,by simp⟩,by simp⟩
 simp[Tryz.f116,kk,al,an,gZ]
 cases hL with
 |false=>
  simp
  exact hB
 |true=>
 obtain⟨t,x,i,X⟩:=hC rfl
 obtain⟨qb,qe⟩:=Gz X.f.v
 have k8:LO s.fW:=⟨by have:=I.l;omega,by have:=I.l;omega,by have:=I.l;omega,λl hl=>by have:=I.r.len I.a l hl;omega,I.a⟩
 have gV:rl Tryz.prog cx ⟨pt [(149,yr.jl),(107,rL)],ht [(163,jM gJ TT Mw),(164,jM VH Md AR)]⟩ 107 [c.d8.t,s.fW.t,.int .i64 ch.dA,.int .i64 u.kind,.int .i64 u.obj,.int .i64 ch.Di]=some (wW (c.d8,s.fW,ch.dA,u.kind,u.obj,ch.Di)):=
  fR (by simp) CQ (c.d8,s.fW,ch.dA,u.kind,u.obj,ch.Di) ⟨by simp only;omega,k8⟩
 cases gi:jo c.d8 s.fW ch.dA u.kind u.obj with
 |false=>
  simp[gV,wW,gi]
  exact hB
 |true=>
 simp[gV,wW,gi]
 generalize k1:dV c.d8 s.fW ch.dA u.kind u.obj ch.Di=h6 at*
 obtain⟨S,U⟩:=h6
 simp
 have hl:=I.l
 generalize bv:H.cons _ _=bN
 have hK:gh 0 bN:=by rw[<-bv];exact⟨by simp,by simp,by simp⟩
 have ns:bN.size=7:=by rw[<-bv];rfl
 have m1:bN.get 0=some ⟨7,0,0,true,false,[c.t]⟩:=by rw[<-bv];simp
 have m2:bN.get 1=some ⟨7,0,0,true,false,[s.t]⟩:=by rw[<-bv];simp
 have m3:bN.get 2=some ⟨2,0,0,true,false,[ch.t]⟩:=by rw[<-bv];simp
 have m4:bN.get 3=some ⟨7,0,0,true,false,[.agg [.dq [] false,.int .i64 0,.dq [] false,.dq [] false,.dq [] false,.dq [] false,.dq [] false]]⟩:=by rw[<-bv];simp
 have m5:bN.get 4=some ⟨7,0,0,true,false,[.agg [.int .i64 0,.int .i64 0,.int .i64 0,.int .i64 0,.int .i64 0,.dq [] false,.dq [] false]]⟩:=by rw[<-bv];simp
 have nk:bN.get 5=some ⟨7,0,1,true,false,[u.t]⟩:=by rw[<-bv];simp
 have nn:bN.get 6=some ⟨4,0,1,true,false,[S.t]⟩:=by rw[<-bv];simp
 clear bv
 refine gd M7 (by simp) s ⟨rfl,hK,⟨rfl,hK,by omega,by omega,by omega,λl q=>by have:=I.r.len I.a l q;omega⟩,by omega,by omega,by omega,λR dv=>⟨by have:=(I.t R dv).rl;omega,by have:=(I.t R dv).tl;omega,λl q=>((I.t R dv).tn l q).1⟩⟩ ?_
 rintro _ c4 ⟨nB,nE,nF,cc,cf,ct,es,lo,hi,n0,rfl,F⟩
 have nr:=F.nb.ok.sz
 have h3:=F.z
 rw[ns]at nr h3
 have a1:=(F.nb.get 1 (by omega)).trans m2
 have h5:=(F.nb.get 6 (by omega)).trans nn
 have a2:=(F.nb.get 2 (by omega)).trans m3
 have a0:=(F.nb.get 0 (by omega)).trans m1
 obtain⟨eI,n8,eL,cX,c1,n9⟩:=F.k0
 have p1:∀y,(dI c4 1 y).get 1=some y:=λy=>(dy a1 y _).trans (aq rfl)
 have p6:∀y,(dI c4 1 y).get 6=c4.get 6:=λy=>(dy a1 y _).trans (ao (by omega))
 simp[a1,dG,p1,p6,h5]
 generalize eu:dI (dI c4 1 _) 1 _=B
 have qi:B.size=c4.size:=by rw[<-eu];simp
 have lv:gh 0 c4:=⟨F.nb.ok.hp,F.nb.ok.low,aw _⟩
 have okB:gh 0 B:=by rw[<-eu];exact(lv.put _ _).put _ _
 have hO:=(show B.get 1=some ⟨7,0,2,true,false,[.agg [sl (S.dP.map dF.t),.int .i64 S.tx,sl (S.done.map T.bool),sl (S.dp.map dx.t),cc,cf,ct]]⟩by rw[<-eu];exact(dy (p1 _) _ _).trans (aq rfl))
 have ce:∀k,k≠1->B.get k=c4.get k:=λk bT=>by rw[<-eu,dy (p1 _),ao bT,dy a1,ao bT]
 clear eu p1 p6
 have hN:=(ce 0 (by omega)).trans a0
 have hP:=(ce 2 (by omega)).trans a2
 have lS:=(ce 5 (by omega)).trans ((F.nb.get 5 (by omega)).trans nk)
 have lG:=(ce 3 (by omega)).trans ((F.nb.get 3 (by omega)).trans m4)
 have lR:=(ce 4 (by omega)).trans ((F.nb.get 4 (by omega)).trans m5)
 have L:=F.th.mono (h':=B) (by omega) λk bT _=>ce k (by omega)
 have bT:=X.n
 rw[<-X.f.th]at bT
 obtain⟨e0,W⟩:=ed.1 bT
 have cb:=X.ht
 have gg:∃ha,es[ch.dA.toNat]? =some ha:=⟨_,aB (by rw[L.l];exact W)⟩
 obtain⟨ha,eS⟩:=gg
 obtain⟨a,b,el,rfl,e9⟩:=L.e _ _ _ eS cb
 obtain⟨E,hb,hY,ext,hZ,t1,t2,t3,t4⟩:=L.g.NA (te:=I0) rfl (i:=ch.dA.toNat) (by rw[L.l];exact W)
 rw[show es[ch.dA.toNat]'(by rw[L.l];exact W)=zU t a b by rw[aB (by rw[L.l];exact W)]at eS;simpa using eS]at t4
 have ia:=okB.low
 have nv:∀k,k<7->(k=B.size)=False:=λk bT=>by simp;omega
 have q1:∀k,k<7->(k=B.size+1)=False:=λk bT=>by simp;omega
 have av:=X.hx
 have hA:=X.hi
 obtain⟨lD,pe,pm,ps⟩:=X.f.t _ _ _ cb av
 have l7:=dS lD
 simp[hN,hO,hP,t2,t3,t4,zU,ia,dS e0,nv,av,hA,l7]
 have o4:B.size<B.size+1:=by omega
 generalize ds:dI ((B.cons _).cons _) (B.size+1) _=a7
 have qo:a7.size=B.size+1+1:=by rw[<-ds,fc];rfl
 have lw:gh 0 a7:=by rw[<-ds];exact((okB.cons _).cons _).put _ _
 have hV:a7.get B.size=some ⟨4,0,1,true,false,[.agg [.int .i64 t.pC,a,b,.int .i64 t.dw]]⟩:=by rw[<-ds,ph ((okB.cons _).cons _).hp (by show _<B.size+1+1;omega),ao (by omega),dH,ao (by show¬_=B.size+1;omega),dH,aq rfl]
 have lW:a7.get (B.size+1)=some ⟨6,0,1,true,false,[i.t]⟩:=by rw[<-ds,ph ((okB.cons _).cons _).hp (by show _<B.size+1+1;omega),aq rfl]
 have hS:∀k,k<B.size->a7.get k=B.get k:=λk bT=>by
  rw[<-ds,ph ((okB.cons _).cons _).hp (by show _<B.size+1+1;omega),ao (by omega),dH,ao (by show¬_=B.size+1;omega),dH,ao (by omega)]
 clear ds
 have r5:=(hS 5 (by omega)).trans lS
 have j5:∀y,(dI a7 5 y).get 5=some y:=λy=>(dy r5 y _).trans (aq rfl)
 simp[hV,r5,oH,j5]
 have lC:gh 0 (dI a7 5 ⟨7,0,2,true,false,[dN.t ⟨u.dA,u.kind,u.obj,U,u.iF,u.mt,u.uI⟩]⟩):=lw.put _ _
 have eN:∀k,(dI a7 5 ⟨7,0,2,true,false,[dN.t ⟨u.dA,u.kind,u.obj,U,u.iF,u.mt,u.uI⟩]⟩).get k=_:=λk=>dy r5 _ k
 have q0:(dI a7 5 ⟨7,0,2,true,false,[dN.t ⟨u.dA,u.kind,u.obj,U,u.iF,u.mt,u.uI⟩]⟩).size=a7.size:=fc ..
 generalize dI a7 5 ⟨7,0,2,true,false,[dN.t ⟨u.dA,u.kind,u.obj,U,u.iF,u.mt,u.uI⟩]⟩=a8 at*
 have oC:ch.dA.toNat<s.dp.length:=W
 obtain⟨pn,qa,o5,_,gE,gI,_,gM,_,_,hX,_⟩:=FX X.f X.n
 rw[cb]at gE
 rw[av]at gI
 simp only[ar]at gE gI
 subst gE;subst gI
 rw[hA]at gM
 simp only[ar]at gM
 subst gM
 have eA:∀K:Int,u.kind=K->K≠1->K≠17->K≠0->lO i.op=K:=λK al an a6 ca=>by
  rcases X.k with q|q|q
  ·omega
  ·omega
  ·omega
 have gj:=gi
 unfold jo at gj
 simp only[ay]at gj
 have eW:=gj.1.2
 have hv:u.kind=3\/u.kind=4->iI u.obj s.cells.length=true:=λq=>by
  rw[X.f.cl]
  unfold jn at eW
  rcases q with q|q<;>simpa[q]using eW
 have hy:u.kind=22\/u.kind=23->iI u.obj s.dR.length=true:=λq=>by
  rw[X.f.fu]
  unfold jn at eW
  rcases q with q|q<;>simpa[q]using eW
 have hQ:u.kind=3\/u.kind=23\/u.kind=5->0<=i.a/\i.a<x.iq:=λq=>by
  refine hX _ ?_
  unfold iv
  rcases q with q|q|q
  ·rcases(uD (eA 3 q (by omega) (by omega) (by omega)) (by omega)).1 rfl with k|k<;>simp[k]
  ·simp[(uD (eA 23 q (by omega) (by omega) (by omega)) (by omega)).2.2.2.2 rfl]
  ·simp[(uD (eA 5 q (by omega) (by omega) (by omega)) (by omega)).2.2.1 rfl]
 have hR:u.kind=4\/u.kind=22->0<=i.b/\i.b<x.iq:=λq=>by
  refine hX _ ?_
  unfold iv
  rcases q with q|q
  ·rcases(uD (eA 4 q (by omega) (by omega) (by omega)) (by omega)).2.1 rfl with k|k<;>simp[k]
  ·simp[(uD (eA 22 q (by omega) (by omega) (by omega)) (by omega)).2.2.2.1 rfl]
 have M:SJ c s ch i S ch.dA.toNat B.size n0 cc cf ct es lo hi a b el t a8:=by
  have bz:∀k,k<B.size->k≠5->a8.get k=B.get k:=λk al an=>(eN k).trans ((ao an).trans (hS k al))
  have pa:=L.m _ W
  have lp:n0<=B.size:=by have:=F.zn;omega
  refine⟨lC,by omega,h3,lp,(bz 0 (by omega) (by omega)).trans hN,(bz 1 (by omega) (by omega)).trans hO,(bz 2 (by omega) (by omega)).trans hP,(bz 3 (by omega) (by omega)).trans lG,(bz 4 (by omega) (by omega)).trans lR,?_,
   ⟨_,F.gc.mono λq x=> ?_,by simp⟩,⟨_,F.gf.mono λq x=> ?_,by simp⟩,λq x=> ?_,λq x=> ?_,L.g.mono λq x=> ?_,L.l,L.m,L.d,λq x=> ?_,λj u R eU gg dv=> ?_,W,⟨_,_,eS⟩,e9.Jp (by omega) (by omega) λv eX q x=> ?_,λv eX q x=> ?_⟩
  ·exact(eN _).trans ((ao (by omega)).trans lW)
  ·have:=F.bc q x;exact(bz q (by omega) (by omega)).trans (ce q (by omega))
  ·have:=F.bf q x;exact(bz q (by omega) (by omega)).trans (ce q (by omega))
  ·have:=F.bc q x;omega
  ·have:=F.bf q x;exact⟨by omega,this.2.1,this.2.2⟩
  ·obtain⟨_,_,_,_,g,_⟩:=L.g.box x
   have:=(L.c q x).1
   exact bz q (H.dL g) (by omega)
  ·obtain⟨_,_,_,_,g,_⟩:=L.g.box x
   exact⟨(L.c q x).1,H.dL g,(L.c q x).2⟩
  ·obtain⟨fl,fo,LA,rfl,l9⟩:=L.e j u R gg dv
   have ld:=L.m j (List.getElem?_eq_some_iff.1 dv).1
   exact .inr (.inr ⟨_,_,rfl,(l9.mono (h':=a8) (au _) (au _) λq al an=>bz q (by omega) (by omega)).fz _ λq al an=>⟨al,an⟩,rfl⟩)
  all_goals
   have hq:lo ch.dA.toNat<=q/\q<hi ch.dA.toNat:=by
    rcases eX with rfl|rfl|eX
    ·have:=e9.ba q x;omega
    ·exact e9.bb q x
    ·obtain⟨_,w⟩:=e9.el.left eX;have:=w.2 q x;exact⟨this.1,this.2.1⟩
  ·exact bz q (by omega) (by omega)
  ·exact⟨hq.1,.inl hq.2⟩
 refine O6 (λbk h=>He B.size bk/\(∃n,TI.dt bk 16=some (.int .i64 n))/\SJ c s ch i S ch.dA.toNat B.size n0 cc cf ct es lo hi a b el t h/\Ev9 u h/\Th9 B.size a b t.pC t.dw h) ?_ ?_
 ·have Q:=(eN 5).trans (aq rfl)
  have dn:=(eN B.size).trans ((ao (by omega)).trans hV)
  have eF:Ev9 u a8:=⟨U,2,Q⟩
  have b6:Th9 B.size a b t.pC t.dw a8:=⟨1,dn⟩
  cases nX:decide (u.kind=1)with
  |true=>
   simp[dn,He]
   exact⟨M,eF,b6⟩
  |false=>
  cases b8:decide (u.kind=16)with
  |true=>
   simp[b8,dn,He]
   exact⟨M,eF,b6⟩
  |false=>
  cases cp:decide (u.kind=2)with
  |true=>
   simp[b8,cp,dn,He]
   exact⟨M,eF,b6⟩
  |false=>
  cases cL:decide (u.kind=3)with
  |true=>
   obtain⟨l1,bB,bX⟩:=M.gc
   have bi:=ed.1 (hv (.inl (by simpa using cL)))
   obtain⟨p1,P,bn⟩:=(show nz a8 1 cc (fD l1)from .inr bB).idx (te:=Ha) rfl rfl (i:=u.obj.toNat) (x:= .int .i64 l1[u.obj.toNat]) (by simp[bX,bi.2]) rfl
   simp[b8,cp,cL,Q,M.b1,dS bi.1,P,bn,He]
   exact M.Ko Q b6 u _ _
  |false=>
  cases dk:decide (u.kind=23)with
  |true=>
   obtain⟨l1,bB,bX⟩:=M.gf
   have bi:=ed.1 (hy (.inr (by simpa using dk)))
   obtain⟨p1,P,bn⟩:=(show nz a8 1 cf (fD l1)from .inr bB).idx (te:=Ha) rfl rfl (i:=u.obj.toNat) (x:= .int .i64 l1[u.obj.toNat]) (by simp[bX,bi.2]) rfl
   simp[b8,cp,cL,dk,Q,M.b1,dS bi.1,P,bn,He]
   exact M.Ko Q b6 u _ _
  |false=>
  have fB:nz a8 1 a (fD t.iq):= .inr M.tx.ga
  have e8:∀x y:Int,lr (.int .i64 x) 0 [.int .i64 y]=some (.int .i64 y):=λx y=>rfl
  cases dm:decide (u.kind=4)with
  |true=>
   have gB:=hR (.inl (by simpa using dm))
   have bi:=ed.1 (hv (.inr (by simpa using dm)))
   obtain⟨p1,P,bn⟩:=fB.idx (te:=Ha) rfl rfl (i:=i.b.toNat) (x:= .int .i64 t.iq[i.b.toNat]) (by simp[show i.b.toNat<t.iq.length by omega]) rfl
   obtain⟨aA,aE,t5⟩:=M.Ko Q b6 u t.iq[i.b.toNat] 3
   have c1:=(dy Q ⟨7,0,3,true,false,[dN.t ⟨u.dA,u.kind,u.obj,t.iq[i.b.toNat],u.iF,u.mt,u.uI⟩]⟩ 5).trans (aq rfl)
   simp[b8,cp,cL,dk,dm,Q,dn,M.bq,dS gB.1,P,bn,He]
   generalize dI a8 5 ⟨7,0,3,true,false,[dN.t ⟨u.dA,u.kind,u.obj,t.iq[i.b.toNat],u.iF,u.mt,u.uI⟩]⟩=ap at*
   obtain⟨l1,bB,bX⟩:=aA.gc
   obtain⟨q,ae,mq,hc,mC,gw,gy,eC,eD⟩:=bB.NA (te:=Ha) rfl (i:=u.obj.toNat) (by simpa[bX]using bi.2)
   simp at eD
   obtain⟨gv,er⟩:=aA.cell gw eC u.obj.toNat t.iq[i.b.toNat]
   simp[aA.b1,c1,dS bi.1,gy,eC,eD,e8]
   obtain⟨gQ,gS,gp⟩:=aE
   obtain⟨eb,c9⟩:=t5
   exact⟨gv,⟨gQ,gS,(er 5 (.inl rfl)).trans gp⟩,eb,(er _ (.inr rfl)).trans c9⟩
  |false=>
  cases eh:decide (u.kind=22)with
  |true=>
   have gB:=hR (.inr (by simpa using eh))
   have bi:=ed.1 (hy (.inl (by simpa using eh)))
   obtain⟨p1,P,bn⟩:=fB.idx (te:=Ha) rfl rfl (i:=i.b.toNat) (x:= .int .i64 t.iq[i.b.toNat]) (by simp[show i.b.toNat<t.iq.length by omega]) rfl
   obtain⟨aA,aE,t5⟩:=M.Ko Q b6 u t.iq[i.b.toNat] 3
   have c1:=(dy Q ⟨7,0,3,true,false,[dN.t ⟨u.dA,u.kind,u.obj,t.iq[i.b.toNat],u.iF,u.mt,u.uI⟩]⟩ 5).trans (aq rfl)
   simp[b8,cp,cL,dk,dm,eh,Q,dn,M.bq,dS gB.1,P,bn,He]
   generalize dI a8 5 ⟨7,0,3,true,false,[dN.t ⟨u.dA,u.kind,u.obj,t.iq[i.b.toNat],u.iF,u.mt,u.uI⟩]⟩=ap at*
   obtain⟨l1,bB,bX⟩:=aA.gf
   obtain⟨q,ae,mq,hc,mC,gw,gy,eC,eD⟩:=bB.NA (te:=Ha) rfl (i:=u.obj.toNat) (by simpa[bX]using bi.2)
   simp at eD
   obtain⟨gv,er⟩:=aA.fut gw eC u.obj.toNat t.iq[i.b.toNat]
   simp[aA.b1,c1,dS bi.1,gy,eC,eD,e8]
   obtain⟨gQ,gS,gp⟩:=aE
   obtain⟨eb,c9⟩:=t5
   exact⟨gv,⟨gQ,gS,(er 5 (.inl rfl)).trans gp⟩,eb,(er _ (.inr rfl)).trans c9⟩
  |false=>
  cases fv:decide (u.kind=5)with
  |false=>
   simp[b8,cp,cL,dk,dm,eh,fv,He]
   exact⟨M,eF,b6⟩
  |true=>
   have e7:=hQ (.inr (.inr (by simpa using fv)))
   obtain⟨p1,P,bn⟩:=fB.idx (te:=Ha) rfl rfl (i:=i.a.toNat) (x:= .int .i64 t.iq[i.a.toNat]) (by simp[show i.a.toNat<t.iq.length by omega]) rfl
   obtain⟨aA,aE,t5⟩:=M.Ko Q b6 u 1 3
   have c1:=(dy Q ⟨7,0,3,true,false,[dN.t ⟨u.dA,u.kind,u.obj,1,u.iF,u.mt,u.uI⟩]⟩ 5).trans (aq rfl)
   simp[b8,cp,cL,dk,dm,eh,fv,Q,He]
   generalize dI a8 5 ⟨7,0,3,true,false,[dN.t ⟨u.dA,u.kind,u.obj,1,u.iF,u.mt,u.uI⟩]⟩=ap at*
   obtain⟨p1,P,bn⟩:=(show nz ap 1 a (fD t.iq)from .inr aA.tx.ga).idx (te:=Ha) rfl rfl (i:=i.a.toNat) (x:= .int .i64 t.iq[i.a.toNat]) (by simp[show i.a.toNat<t.iq.length by omega]) rfl
   obtain⟨eb,c9⟩:=t5
   obtain⟨hF,mj,t6⟩:=aA.Ko c1 ⟨eb,c9⟩ u 0 4
   have h9:=hF.bq
   simp[c9,aA.bq,dS e7.1,P,bn]
   refine dM (λq=> ?_) (λq=> ?_)
   ·simp[c1,h9]
    exact⟨hF,mj,t6⟩
   ·simp
    exact⟨aA,aE,eb,c9⟩
 ·rintro bk h ⟨⟨a6,ca,ap,bp,bs,bu,aX,b9⟩,⟨dd,eP⟩,A,⟨v,aE,aN⟩,b7,ae⟩
  simp[bu,aN]
  have pd:=A.ok
  refine m6 (λbk h=>He B.size bk/\(∃n,TI.dt bk 16=some (.int .i64 n))/\∃LA t',t'.pC=t.pC/\t'.dw=t.dw/\S8 1000000 t'/\SJ c s ch i S ch.dA.toNat B.size n0 cc cf ct es lo hi a b LA t' h/\Ev9 u h/\Th9 B.size a b t.pC t.dw h) (λG=> ?_) (λG=> ?_) ?_
  ·have e7:=hQ (by simpa[or_assoc]using(by simpa using G:u.kind=3\/u.kind=23).elim .inl λq=> .inr (.inl q))
   have oT:el.length=t.jD.length:=A.tx.el.length
   have kn:i.a.toNat<t.iq.length:=by omega
   have kp:i.a.toNat<el.length:=by omega
   obtain⟨Y,ii,mx,jj,m0,ey,kB,fX,ho⟩:=A.tx.ga.NA (te:=Ha) rfl (i:=i.a.toNat) (by simpa using kn)
   simp at ho
   have e8:∀x y:Int,lr (.int .i64 x) 0 [.int .i64 y]=some (.int .i64 y):=λx y=>rfl
   have lh:=A.n7
   have pc:=A.np
   have o3:=A.z
   have hs:=A.tx.ba Y ey
   have o1:=A.xb a (.inl rfl) Y ey
   have oV:=A.m _ A.hk
   simp[bu,aX,b9,ae,aN,A.bq,dS e7.1,kB,fX,ho,e8]
   generalize lc:iE.mk 1 ii (mx+1) jj false (m0.set i.a.toNat (.int .i64 v))=de at*
   have ef:∀w,(dI h Y de).get w=if w=Y then some de else h.get w:=λw=>dy fX de w
   have lu:gh 0 (dI h Y de):=A.ok.put _ _
   have qc:(dI h Y de).size=h.size:=fc ..
   have ib:=(ef B.size).trans ((ao (by omega)).trans ae)
   have ic:=(ef (B.size+1)).trans ((ao (by omega)).trans A.bq)
   have n2:=(ef 5).trans ((ao (by omega)).trans aN)
   generalize oB:dI h Y de=J at*
   have eO:Gr J b 1 el:=A.tx.gb.mono λw hr=>(ef w).trans (ao λx=>hs.2.2 (by rw[<-x];exact hr))
   obtain⟨Z,eo,fb,eH,fe,c6,k2,eR,fY⟩:=(eO.mono (h':=J.cons ⟨1,0,0,true,false,[.int .i64 t.dw]⟩) λw hr=>by rw[dH,ao (by have:=(A.tx.bb w hr).2;omega)]).NA (te:=m8) rfl (i:=i.a.toNat) kp
   obtain⟨n1,k4,lT⟩:=A.tx.el.get (aB (show i.a.toNat<t.jD.length by omega))
   have lX:=Dk (x:= .arr J.size 0 0 1 false) lT.1.na
   replace fY:=fY.trans ((aB _).symm.trans k4)
   have k3:b= .arr Z eo 0 el.length false:=by
    obtain⟨_,_,_,_,q,u⟩:=(eO.mono (h':=J.cons ⟨1,0,0,true,false,[.int .i64 t.dw]⟩) λw hr=>by rw[dH,ao (by have:=(A.tx.bb w hr).2;omega)]).box c6
    rw[eR]at q;simp at q;rw[u,q.1]
   simp[aX,b9,eP,ib,ic,dS e7.1,k2,eR,fY,lX]
   have ov:=A.tx.bb Z c6
   have o2:=A.xb b (.inr (.inl rfl)) Z c6
   have kD:Y≠Z:=λq=>hs.2.2 (by rw[q];exact c6)
   have lB:gh 0 (dI (J.cons ⟨1,0,0,true,false,[.int .i64 t.dw]⟩) Z ⟨1,eo,fb+1,eH,false,fe.set i.a.toNat (.arr J.size 0 0 1 false)⟩):=(lu.cons _).put _ _
   have qL:(dI (J.cons ⟨1,0,0,true,false,[.int .i64 t.dw]⟩) Z ⟨1,eo,fb+1,eH,false,fe.set i.a.toNat (.arr J.size 0 0 1 false)⟩).size=h.size+1:=by rw[fc];show J.size+1=_;omega
   have eE:∀w,(dI (J.cons ⟨1,0,0,true,false,[.int .i64 t.dw]⟩) Z ⟨1,eo,fb+1,eH,false,fe.set i.a.toNat (.arr J.size 0 0 1 false)⟩).get w=if w=Z then some ⟨1,eo,fb+1,eH,false,fe.set i.a.toNat (.arr J.size 0 0 1 false)⟩else if w=J.size then some ⟨1,0,0,true,false,[.int .i64 t.dw]⟩else if w=Y then some de else h.get w:=λw=>(dy eR _ w).trans (by rw[dH,ef])
   generalize dI (J.cons _) Z _=fL at*
   have kb:=(eO.mono (h':=J.cons ⟨1,0,0,true,false,[.int .i64 t.dw]⟩) λw hr=>by rw[dH,ao (by have:=(A.tx.bb w hr).2;omega)]).setAt c6 eR i.a.toNat (.arr J.size 0 0 1 false) (h':=fL) ((eE Z).trans (aq rfl))
   have j6:=A.tx.ga.setAt ey fX i.a.toNat (.int .i64 v) (h':=fL) ((eE Y).trans ((ao kD).trans ((ao (by omega)).trans ((aq rfl).trans (by rw[lc])))))
   have di:∀w,w<h.size->w≠Y->w≠Z->fL.get w=h.get w:=λw al an a6=>(eE w).trans ((ao a6).trans ((ao (by omega)).trans (ao an)))
   have ie:∀w,dE a=some w->w=Y:=λw hr=>by rw[ey]at hr;simpa using hr.symm
   have ih:∀w,dE b=some w->w=Z:=λw hr=>by rw[c6]at hr;simpa using hr.symm
   have oA:=gk t (az cb)
   have gn:=I.t t (az cb)
   have e6:∀w,dE a≠some w->dE b≠some w->w≠Y/\w≠Z:=λw al an=>⟨λx=>al (by rw[x];exact ey),λx=>an (by rw[x];exact c6)⟩
   refine⟨by simp[He,a6,ca,ap,bp,bs,bu,aX,b9],el.set i.a.toNat (.arr J.size 0 0 1 false),⟨t.pC,t.iq.set i.a.toNat v,t.jD.set i.a.toNat [t.dw],t.dw⟩,rfl,rfl,⟨by simpa using gn.rl,by simpa using gn.tl,λl hl=> ?_⟩,
    A.gen lB (by omega) (λw al an a6 _ _ bp bs=>di w al (e6 w bp bs).1 (e6 w bp bs).2) ?_ ?_ ⟨by simpa[fD,bV]using j6,kb,A.tx.el.set i.a.toNat ⟨.inr ?_,λw hr=> ?_⟩ λu l q=>⟨q.1.mono λw hr=> ?_,λw hr=> ?_⟩,λw hr=> ?_,λw hr=> ?_⟩ λU hw w hr=> ?_,⟨v,aE,(di 5 (by omega) (by omega) (by omega)).trans aN⟩,b7,(di _ (by omega) (by omega) (by omega)).trans ae⟩
   ·rcases cE hl with q|rfl
    ·exact gn.tn l q
    ·exact⟨by simp,λx av=>by simp at av;subst av;omega⟩
   ·obtain⟨l1,eI,P⟩:=A.gc
    exact⟨l1,eI.mono λw hr=>by have:=A.bc w hr;exact di w (by omega) (by omega) (by omega),P⟩
   ·obtain⟨l1,eI,P⟩:=A.gf
    exact⟨l1,eI.mono λw hr=>by have:=A.bf w hr;exact di w (by omega) (by omega) (by omega),P⟩
   ·have:=Gr.new ((eE J.size).trans ((ao (by omega)).trans (aq rfl)))
    simpa using this
   ·simp at hr;subst hr
    exact⟨by omega,by omega,λq=>by have:=ie _ q;omega,λq=>by have:=ih _ q;omega⟩
   ·obtain⟨W,hG,e4,e5⟩:=q.2 w hr
    exact di w hG (e6 w e4 e5).1 (e6 w e4 e5).2
   ·obtain⟨W,hG,e4,e5⟩:=q.2 w hr
    exact⟨W,by omega,e4,e5⟩
   ·have:=A.tx.ba w hr
    exact⟨this.1,by omega,this.2.2⟩
   ·have:=A.tx.bb w hr
    exact⟨this.1,by omega⟩
   ·rcases hw with rfl|rfl|hw
    ·exact A.xb _ (.inl rfl) w hr
    ·exact A.xb _ (.inr (.inl rfl)) w hr
    ·rcases cE hw with q|rfl
     ·exact A.xb U (.inr (.inr q)) w hr
     ·simp at hr;subst hr;omega
  ·simp[He,a6,ca,ap,bp,bs,bu,aX,b9,eP]
   exact⟨el,t,rfl,rfl,I.t _ (az cb),A,⟨v,aE,aN⟩,b7,ae⟩
  rintro bk h ⟨⟨a6,ca,ap,bp,bs,bu,aX,b9⟩,⟨dd,eP⟩,LA,t',oW,o0,ea,A,⟨v,aE,aN⟩,b7,ae⟩
  have et:∀y,(dI h B.size y).get B.size=some y:=λy=>(dy ae y _).trans (aq rfl)
  have hg:∀y,∀q,q<7->(dI h B.size y).get q=h.get q:=λy q G=>(dy ae y _).trans (ao (by omega))
  have hf:∀y C,(dI (dI h B.size y) B.size C).get B.size=some C:=λy C=>(dy (et y) C _).trans (aq rfl)
  have fE:∀y C,∀q,q<7->(dI (dI h B.size y) B.size C).get q=h.get q:=λy C q G=>(dy (et y) C _).trans ((ao (by omega)).trans (hg y q G))
  simp[bu,aX,eP,aN,ae,oH,dG,et,fE]
  have k3:=gk t (az cb)
  have lb:IntKind.i64.wrap (t.dw+1)=t.dw+1:=by rw[<-ju,jB (by omega) (by omega)]
  rw[lb]
  have M5:gh 0 (dI (dI h B.size ⟨4,0,b7+1,true,false,[.agg [.int .i64 t.pC,a,b,.int .i64 (t.dw+1)]]⟩) B.size ⟨4,0,b7+1+1,true,false,[.agg [.int .i64 dd,a,b,.int .i64 (t.dw+1)]]⟩):=(A.ok.put _ _).put _ _
  have D:=A.mono M5 (by rw[fc,fc];exact au _) λq _ _ G=>by rw[dy (et _),ao G,dy ae,ao G]
  have gX:=(fE ⟨4,0,b7+1,true,false,[.agg [.int .i64 t.pC,a,b,.int .i64 (t.dw+1)]]⟩ ⟨4,0,b7+1+1,true,false,[.agg [.int .i64 dd,a,b,.int .i64 (t.dw+1)]]⟩ 5 (by omega)).trans aN
  have gz:=hf ⟨4,0,b7+1,true,false,[.agg [.int .i64 t.pC,a,b,.int .i64 (t.dw+1)]]⟩ ⟨4,0,b7+1+1,true,false,[.agg [.int .i64 dd,a,b,.int .i64 (t.dw+1)]]⟩
  generalize dI (dI h B.size _) B.size _=hh at*
  clear et hg hf fE A ae aN
  refine m6 (λbk h=>He B.size bk/\SJ c s ch i S ch.dA.toNat B.size n0 cc cf ct es lo hi a b LA t' h/\Ev9 u h/\aet B.size ct t.dw h) (λG=> ?_) (λG=> ?_) ?_
  ·have la:=az av
   simp[a6,ap,aX,D.b0,D.b2,dS e0,av,gz]
   refine gd MH (by simp) ⟨x,⟨dd,t'.iq,t'.jD,t.dw+1⟩,a,b,LA,7,hh.size,1000000⟩ ⟨rfl,D.tx.same rfl rfl,au _,M5,⟨ea.rl,ea.tl,ea.tn⟩,au _,gm x la⟩ ?_
   rintro _ hE ⟨R,hL,rfl,gP,hW,qE,fA,hJ⟩
   have qw:=D.z
   have hM:=(fA B.size (by omega)).trans gz
   have fC:∀y,∀q,(dI hE B.size y).get q=if q=B.size then some y else hE.get q:=λy q=>dy hM y q
   simp[He,a6,ca,ap,bp,bs,bu,aX,b9,hM,dG]
   have h4:=D.mono (h':=hE) hJ (by omega) λq G _ _=>fA q G
   refine⟨h4.mono (hJ.put _ _) (by rw[fc];exact au _) λq _ _ G=>(fC _ q).trans (ao G),⟨v,aE,(fC _ 5).trans ((ao (by omega)).trans ((fA 5 (by omega)).trans gX))⟩,R.pC,sl (fD R.iq),sl (R.jD.map XU),R.dw,R,_,(fC _ _).trans (aq rfl),by simp,by simp,by simp,by simp,?_,gP,hW⟩
   exact .cons (fJ ..) (.cons (pO _ _ _ λx av=>(FW _ x av).1) (.cons (pO _ _ _ λx av=>by obtain⟨l,_,rfl⟩:=List.mem_map.1 av;simp[XU]) (.cons (fJ ..) .nil)))
  ·simp[He,a6,ca,ap,bp,bs,bu,aX,b9]
   refine⟨D,⟨v,aE,gX⟩,_,_,_,_,⟨dd,t'.iq,t'.jD,t.dw+1⟩,_,gz,D.tx.ga.fT,D.tx.ga.cells,D.tx.gb.fT,D.tx.gb.cells,(D.tx.same (s':=⟨dd,t'.iq,t'.jD,t.dw+1⟩) rfl rfl).fzB _ λU hw q x=> ?_,⟨ea.rl,ea.tl,ea.tn⟩,.inl rfl⟩
   have px:=D.xb U hw q x
   have pD:=D.m _ D.hk
   have pE:=D.n7
   have mA:q<hh.size:=by
    rcases hw with rfl|rfl|hw
    ·exact(D.tx.ba q x).2.1
    ·exact(D.tx.bb q x).2
    ·obtain⟨_,w⟩:=D.tx.el.left hw;exact(w.2 q x).2.1
   exact⟨mA,by omega,by omega,λy=>by have:=D.bt q y;have:=this.2.2 _ D.hk;omega⟩
  rintro bk h ⟨⟨a6,ca,ap,bp,bs,bu,aX,b9⟩,A,⟨v,aE,aN⟩,hH,fl,fo,hI,R,pu,lE,ob,oi,eO,oj,mi,gP,hW⟩
  obtain⟨E,hb,hY,ext,hZ,t1,t2,t3,t4⟩:=A.gt.NA (te:=I0) rfl (i:=ch.dA.toNat) (by rw[A.l];exact W)
  obtain⟨hc,n5,k6⟩:=A.ek
  replace t4:=t4.trans ((aB _).symm.trans k6)
  have nA:=A.bt E t1
  obtain⟨l1,bB,bX⟩:=A.gc
  obtain⟨l2,kg,k7⟩:=A.gf
  generalize hD:iE.mk 4 hb (hY+1) ext false (hZ.set ch.dA.toNat (.agg [.int .i64 hH,fl,fo,.int .i64 hI]))=O
  have hd:∀q,(dI h E O).get q=if q=E then some O else h.get q:=λq=>dy t3 O q
  have eM:∀q,q<7->(dI h E O).get q=h.get q:=λq G=>(hd q).trans (ao (by omega))
  have h7:=(eM 1 (by omega)).trans A.b1
  have fs:=(eM 3 (by omega)).trans A.b3
  have nw:=(eM 4 (by omega)).trans A.b4
  have h8:=(eM 5 (by omega)).trans aN
  have eL:∀y q,(dI (dI h E O) 3 y).get q=if q=3 then some y else if q=E then some O else h.get q:=λy q=>(dy fs y q).trans (by rw[hd])
  have cX:∀y C q,(dI (dI (dI h E O) 3 y) 4 C).get q=if q=4 then some C else if q=3 then some y else if q=E then some O else h.get q:=λy C q=>(dy ((eL y 4).trans ((ao (by omega)).trans ((ao (by omega)).trans A.b4))) C q).trans (by rw[eL])
  have pb:(3=E)=False:=by simp;omega
  have lg:(4=E)=False:=by simp;omega
  have sv:∀y,dY (dI h E O) (dI (dI h E O) 3 y) 5=true:=λy=>mg fs (by omega) y
  have jC:∀y C,TI.fz (dI (dI (dI h E O) 3 y) 4 C) cc=some (sl (fD l1)):=λy C=>(bB.mono (h':=dI (dI (dI h E O) 3 y) 4 C) λq x=>by
   have:=A.bc q x;rw[cX,ao (by omega),ao (by omega),ao (by omega)]).fz (by simp)
  have jZ:∀y C,TI.fz (dI (dI (dI h E O) 3 y) 4 C) cf=some (sl (fD l2)):=λy C=>(kg.mono (h':=dI (dI (dI h E O) 3 y) 4 C) λq x=>by
   have:=A.bf q x;rw[cX,ao (by omega),ao (by omega),ao (by omega)]).fz (by simp)
  have j0:∀y C,TI.fz (dI (dI (dI h E O) 3 y) 4 C) ct=some (sl ((s.dp.set ch.dA.toNat R).map dK.t)):=λy C=>by
   refine(A.gt.setAt t1 t3 ch.dA.toNat (.agg [.int .i64 hH,fl,fo,.int .i64 hI]) (h':=dI (dI (dI h E O) 3 y) 4 C) (by rw[cX,ao (by omega),ao (by omega),aq rfl,hD])).Gl (V:=λ_=>True) (d:=4) (by omega) (Am (by simp[A.l]) λj x U eB hw=> ?_)
   rw[aT]at hw
   obtain⟨mb,c7,rfl⟩:=Option.map_eq_some_iff.1 hw
   by_cases eU:j=ch.dA.toNat
   ·subst eU
    rw[List.getElem?_set_self (by rw[A.l];exact W)]at eB
    rw[List.getElem?_set_self W]at c7
    simp at eB c7
    subst eB;subst c7
    exact .inr (.inr ⟨_,_,rfl,mi.imp λ_ _ k=>k.mono λq G=>⟨trivial,by rw[cX,ao (by omega),ao (by omega),ao (λx=>G.2.2.2 (by rw[x];exact t1))]⟩,rfl⟩)
   ·rw[List.getElem?_set_ne (λx=>eU x.symm)]at eB c7
    have ld:=A.m j (List.getElem?_eq_some_iff.1 c7).1
    have lh:=A.n7
    refine(A.o j x mb eU eB c7).mono λq G=>⟨trivial,?_⟩
    rw[cX,ao (by omega),ao (by omega),ao (λx=>(A.bt E t1).2.2 j (List.getElem?_eq_some_iff.1 c7).1 (by rw[<-x];exact G))]
  simp[ca,ap,bp,bs,bu,aX,A.b1,A.b2,dS e0,lE,t2,t3,t4,dG,hD,h7,fs,h8,eL,cX,lg,A.b4,sv,jC,jZ,j0,A.ok.hp]
  have fS:S=(dV c.d8 s.fW ch.dA u.kind u.obj ch.Di).1:=by rw[k1]
  have eV:=BV c.d8 s.fW ch.dA u.kind u.obj ch.Di
  rw[<-fS]at eV
  refine⟨⟨S,l1,l2,s.dp.set ch.dA.toNat R⟩,⟨u.dA,u.kind,u.obj,v,u.iF,u.mt,u.uI⟩,true,by simp[gJ.t,gJ.cs,bV],k5,λ_=>⟨⟨⟨by rw[eV.1];omega,by rw[eV.2.1];omega,by rw[eV.2.2];omega,by rw[bX];omega,by rw[k7];omega,by simp;omega⟩,?_,?_,λU hw=> ?_⟩,λN hj U hw=> ?_⟩⟩
  ·rw[fS]
   refine BU I.r _ ⟨e0,?_⟩ _ _ _
   have:=X.f.th;omega
  ·rw[fS];exact wX I.a _ _ _ _ _
  ·rcases cE hw with q|rfl
   ·exact I.t U q
   ·exact gP
  ·rcases cE hw with q|rfl
   ·have:=hj U q;omega
   ·have:=hj t (az cb);omega
end
end Go.Proofs.YtmaeadedikngoaaGreatDoor
