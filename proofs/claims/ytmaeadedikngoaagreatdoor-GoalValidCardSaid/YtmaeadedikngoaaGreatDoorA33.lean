/- Texts W09e to W09e. -/
import Derived.Test.YtmaeadedikngoaaGreatDoorA32
set_option linter.unusedVariables false
set_option linter.unusedSimpArgs false
set_option linter.defProp false
set_option maxRecDepth 100000
set_option maxHeartbeats 8000000
namespace Go.Proofs.YtmaeadedikngoaaGreatDoor
noncomputable section
open Go Go.TI
attribute [-simp] List.map_take List.map_drop List.map_append fj eG dY Bool.not_or Bool.not_and
attribute [simp] fh eJ
attribute [-simp] size_cons
def PA{j:Out}{e f:iw}(o:W j e)(q:∀d h,e.n d h->f.n d h)(v:∀i d h,e.x i d h->f.x i d h)(u:∀d h,e.r d h->f.r d h):W j f:=by
 obtain⟨l,d,h,m,g⟩:=o;refine⟨l,d,h,m,?_⟩;cases l with
 |normal=>exact q d h g
 |exit i=>exact v i d h g
 |ret=>exact u d h g
def PU{cx:Ctx}{cf:iG}{z y id:Nat}{u:DL}{t:Bool}{a b:Code}{m:Env->H->Out}{d:Env}{h:H}{f:iw}(l:fJ->H->Prop)(v:CK (some (.bool t)) cx cf z y u a b d h (EJ m (qR id (w9 (λd h=>d.tmps= .nil/\l d.vars h) f))))
 (B:∀o h,l o h->f.n ⟨o,.nil⟩ h):CK (some (.bool t)) cx cf z y u a b d h (EJ m (qR id f)):=by
 have q:∀d h,(d.tmps= .nil/\l d.vars h)->f.n d h:=λd h ⟨e,w⟩=>by obtain⟨o,C⟩:=d;simp only at e w;subst e;exact B o h w
 have A:∀g,W g (qR id (w9 (λd h=>d.tmps= .nil/\l d.vars h) f))->W g (qR id f):=λg r=>PA r q (λi d h e=>by
  rw[xX]at e|-;split
  ·rename_i j;rw[aq j]at e;exact q d h e
  ·rename_i j;rw[ao j]at e;exact e) λ_ _ e=>e
 have x:∀g,W g (EJ m (qR id (w9 (λd h=>d.tmps= .nil/\l d.vars h) f)))->W g (EJ m (qR id f)):=λg r=>PA r (λd h e=>A _ e) (λi d h e=>by
  rw[UD,xX]at e|-;split
  ·rename_i j;rw[aq j]at e;exact q d h e
  ·rename_i j;rw[ao j]at e;exact e) λ_ _ e=>e
 cases t
 ·exact x _ v
 ·exact x _ v
structure StI(s:iu):Prop where
 l:s.fx.dV.length<=1000/\s.fx.done.length<=1000/\s.fx.dB.length<=1000/\s.cells.length<=1000/\s.dT.length<=1000/\s.dB.length<=1000
 r:HC 4 s.fx
 a:s.fx.Ee
 t:∀t∈s.dB,Ts 1000000 t
def UW(d:Nat)(s:iu):Prop:=∀t∈s.dB,0<=t.dH/\t.dH<=d
def Yc(s:iu)(j:T):Prop:=∃(d:iu) (f:dX) (g:Bool),j= .tuple [d.t,f.t,.bool g]/\evN 1000000 f/\(g=true->StI d/\∀e:Nat,UW e s->UW (e+1) d)
def Al.JU{lo l hi j:Nat}{h h':H}{a b:T}{es:List T}{s:dZ}(t:Al lo hi h a b es s)(hl:l<=lo)(r:hi<=j)(f:∀e,(e=a\/e=b\/e∈es)->∀c,dL e=some c->h'.get c=h.get c):Al l j h' a b es s:=
 ⟨t.ga.mono λc d=>f a (.inl rfl) c d,t.gb.mono λc d=>f b (.inr (.inl rfl)) c d,t.el.imp_mem λm n u d=>⟨d.1.mono λc g=>f m (.inr (.inr n)) c g,λc g=>by
   obtain⟨v,w,o,q⟩:=d.2 c g;exact⟨dj,dj,o,q⟩⟩,λc d=>by have:=t.ba c d;exact⟨dj,dj,this.2.2⟩,λc d=>by have:=t.bb c d;exact⟨dj,dj⟩⟩
def Al.fzB{lo hi:Nat}{h:H}{a b:T}{es:List T}{s:dZ}(t:Al lo hi h a b es s)(o:Nat->Prop)(n:∀m,(m=a\/m=b\/m∈es)->∀c,dL m=some c->o c):io (FT h o 3) [dw s.pC,a,b,dw s.dH] s.cs:=
 .cons (fR ..) (.cons ((show oO h 1 a (ge s.iA)from .inr t.ga).ft (d:=1) (GQ _) λc g=>n a (.inl rfl) c g)
  (.cons (t.gb.ft (λc g=>n b (.inr (.inl rfl)) c g) ((t.el.imp_mem (R':=λe j=>oO h 1 e (ge j)/\e∈es) λe q j l=>⟨l.1,q⟩).Uw (f:=λj=>sl (ge j)) λe j l=>l.1.ft (d:=0) (GQ _) λc g=>n e (.inr (.inr l.2)) c g)) (.cons (fR ..) .nil)))
def AW{g j:Type}{l:g->j->Prop}:∀{e:List g} {f:List j},e.length=f.length->(∀(d:Nat) (a:g) (b:j),e[d]? =some a->f[d]? =some b->l a b)->io l e f
 | [],[],_,_=> .nil
 |a::e,b::f,hl,h=> .cons (h 0 a b rfl rfl) (AW (by simpa using hl) λd o q m n=>h (d+1) o q (by simpa using m) (by simpa using n))
 | [],_::_,hl,_=>by simp at hl
 |_::_,[],hl,_=>by simp at hl
structure SJ(c:jv)(s:iu)(ch:iN)(i:fF)(S:fg)(k p n0:Nat)(cc cf ct:T)(es:List T)(lo hi:Nat->Nat)(a b:T)(el:List T)(t:dZ)(h:H):Prop where
 ok:gu 0 h
 z:p+1+1<=h.size
 n7:7<=n0
 np:n0<=p
 b0:h.get 0=some (dy 7 0 [c.t])
 b1:h.get 1=some (dy 7 2 [.agg [sl (S.dV.map dS.t),dw S.tx,sl (S.done.map T.bool),sl (S.dB.map dD.t),cc,cf,ct]])
 b2:h.get 2=some (dy 2 0 [ch.t])
 b3:h.get 3=some (dy 7 0 [.agg [dx,dw 0,dx,dx,dx,dx,dx]])
 b4:h.get 4=some (dy 7 0 [.agg [dw 0,dw 0,dw 0,dw 0,dw 0,dx,dx]])
 bq:h.get (p+1)=some (dy 6 1 [i.t])
 gc:∃l,Gr h cc 1 (ge l)/\l.length=s.cells.length
 gf:∃l,Gr h cf 1 (ge l)/\l.length=s.dT.length
 bc:∀c,dL cc=some c->7<=c/\c<n0
 bf:∀c,dL cf=some c->7<=c/\c<n0/\dL cc≠some c
 gt:Gr h ct 4 es
 l:es.length=s.dB.length
 m:∀j,j<s.dB.length->n0<=lo j/\hi j<=p
 d:∀i j,i<j->j<s.dB.length->hi i<=lo j
 bt:∀c,dL ct=some c->n0<=c/\c<p/\∀j,j<s.dB.length->¬(lo j<=c/\c<hi j)
 o:∀(j:Nat) (e:T) (u:dZ),j≠k->es[j]? =some e->s.dB[j]? =some u->FT h (λc=>lo j<=c/\c<hi j) 4 e u.t
 hk:k<s.dB.length
 ek:∃x y,es[k]? =some (.agg [dw x,a,b,dw y])
 tx:Al 7 h.size h a b el t
 xb:∀v,(v=a\/v=b\/v∈el)->∀c,dL v=some c->lo k<=c/\(c<hi k\/p+1<c)
section
variable {c:jv}{s:iu}{ch:iN}{i:fF}{S:fg}{k p n0:Nat}{cc cf ct:T}{es:List T}{lo hi:Nat->Nat}{a b:T}{el Me:List T}{t t':dZ}{h h':H}
def SJ.gen(e:SJ c s ch i S k p n0 cc cf ct es lo hi a b el t h)(K:gu 0 h')(U:h.size<=h'.size)(u:∀c,c<h.size->c≠5->c≠p->dL cc≠some c->dL cf≠some c->dL a≠some c->dL b≠some c->h'.get c=h.get c)
 (D:∃r,Gr h' cc 1 (ge r)/\r.length=s.cells.length) (E:∃r,Gr h' cf 1 (ge r)/\r.length=s.dT.length) (L:Al 7 h'.size h' a b Me t') (N:∀w,(w=a\/w=b\/w∈Me)->∀c,dL w=some c->lo k<=c/\(c<hi k\/p+1<c)):
 SJ c s ch i S k p n0 cc cf ct es lo hi a b Me t' h':=by
 have V:=e.z;have I:=e.n7;have J:=e.np;have Q:=e.m k e.hk;have v:∀q,q<7->dL cc≠some q/\dL cf≠some q/\dL a≠some q/\dL b≠some q:=λq g=>⟨λf=>by have:=e.bc q f;omega,λf=>by have:=e.bf q f;omega,λf=>by have:=(e.tx.ba q f).1;omega,λf=>by have:=(e.tx.bb q f).1;omega⟩;have n:∀q,q<7->q≠5->h'.get q=h.get q:=λq g F=>u q dj F dj (v q g).1 (v q g).2.1 (v q g).2.2.1 (v q g).2.2.2;have j:∀q,dL a=some q\/dL b=some q->lo k<=q/\(q<hi k\/p+1<q):=λq f=>f.elim (λf=>e.xb a (.inl rfl) q f) λf=>e.xb b (.inr (.inl rfl)) q f;refine⟨K,dj,I,J,(n 0 dj dj).trans e.b0,(n 1 dj dj).trans e.b1,(n 2 dj dj).trans e.b2,(n 3 dj dj).trans e.b3,(n 4 dj dj).trans e.b4,?_,D,E,e.bc,e.bf,e.gt.mono λq f=> ?_,e.l,e.m,e.d,e.bt,λi C M x G A=> ?_,e.hk,e.ek,L,N⟩
 ·refine(u (p+1) dj dj dj (λf=> ?_) (λf=> ?_) (λf=> ?_) λf=> ?_).trans e.bq
  ·have:=e.bc _ f;omega
  ·have:=e.bf _ f;omega
  ·have:=j _ (.inl f);omega
  ·have:=j _ (.inr f);omega
 ·have B:=e.bt q f;have R:=B.2.2 k e.hk;refine u q dj dj dj (λf=> ?_) (λf=> ?_) (λf=> ?_) λf=> ?_
  ·have:=e.bc _ f;omega
  ·have:=e.bf _ f;omega
  ·have:=j _ (.inl f);omega
  ·have:=j _ (.inr f);omega
 ·have y:i<s.dB.length:=(List.getElem?_eq_some_iff.1 A).1;have P:=e.m i y;have O:hi i<=lo k\/hi k<=lo i:=by
   rcases Nat.lt_or_gt_of_ne x with q|q
   ·exact .inl (e.d i k q e.hk)
   ·exact .inr (e.d k i q y)
  refine(e.o i C M x G A).mono λq g=>⟨g,u q dj dj dj (λf=> ?_) (λf=> ?_) (λf=> ?_) λf=> ?_⟩
  ·have:=e.bc _ f;omega
  ·have:=e.bf _ f;omega
  ·have:=j _ (.inl f);omega
  ·have:=j _ (.inr f);omega
def SJ.mono(d:SJ c s ch i S k p n0 cc cf ct es lo hi a b el t h)(y:gu 0 h')(l:h.size<=h'.size)(g:∀c,c<h.size->c≠5->c≠p->h'.get c=h.get c):SJ c s ch i S k p n0 cc cf ct es lo hi a b el t h':=by
 have F:=d.z;have D:=d.n7;have E:=d.np;have C:=d.m k d.hk;obtain⟨l1,q,n⟩:=d.gc;obtain⟨l2,r,o⟩:=d.gf;refine d.gen y l (λc u v w _ _ _ _=>g c u v w) ⟨l1,q.mono λe f=> ?_,n⟩ ⟨l2,r.mono λe f=> ?_,o⟩ (d.tx.JU (au _) l λB j e f=> ?_) d.xb
 ·have:=d.bc e f;exact g e dj dj dj
 ·have:=d.bf e f;exact g e dj dj dj
 ·have:=d.xb B j e f;have x:e<h.size:=by
   rcases j with rfl|rfl|j
   ·exact(d.tx.ba e f).2.1
   ·exact(d.tx.bb e f).2
   ·obtain⟨_,A⟩:=d.tx.el.left j;exact(A.2 e f).2.1
  exact g e x dj dj 
def SJ.cell(e:SJ c s ch i S k p n0 cc cf ct es lo hi a b el t h){f n q:Nat}{o:Bool}{u:List T}(v:dL cc=some f)(w:h.get f=some ⟨1,n,q,o,false,u⟩)(g:Nat)(j:Int):SJ c s ch i S k p n0 cc cf ct es lo hi a b el t (dQ h f ⟨1,n,q+1,o,false,u.set g (dw j)⟩)/\∀d,d=5\/d=p->(dQ h f ⟨1,n,q+1,o,false,u.set g (dw j)⟩).get d=h.get d:=by
 have I:=e.n7;have J:=e.np;have F:=e.bc f v;have G:=e.m k e.hk;obtain⟨l1,A,y⟩:=e.gc;obtain⟨l2,B,z⟩:=e.gf;have l:∀d,(dQ h f ⟨1,n,q+1,o,false,u.set g (dw j)⟩).get d=if d=f then some ⟨1,n,q+1,o,false,u.set g (dw j)⟩else h.get d:=λd=>dE w _ d;refine⟨e.gen (e.ok.put _ _) (by rw[fG];exact au _) (λd _ _ _ C _ _ _=>(l d).trans (ao λr=>C (by rw[r];exact v))) ⟨l1.set g j,?_,by simpa using y⟩ ⟨l2,B.mono λd r=>(l d).trans (ao λx=>(e.bf d r).2.2 (by rw[x];exact v)),z⟩ (e.tx.JU (au _) (by rw[fG];exact au _) λE D d r=>(l d).trans (ao λx=> ?_)) e.xb,λd hr=>(l d).trans (ao dj)⟩
 ·have:=A.setAt v w g (dw j) ((l f).trans (aq rfl));simpa[ge,bR]using this
 ·have:=e.xb E D d r;omega
def SJ.fut(e:SJ c s ch i S k p n0 cc cf ct es lo hi a b el t h){f n q:Nat}{o:Bool}{u:List T}(v:dL cf=some f)(w:h.get f=some ⟨1,n,q,o,false,u⟩)(g:Nat)(j:Int):SJ c s ch i S k p n0 cc cf ct es lo hi a b el t (dQ h f ⟨1,n,q+1,o,false,u.set g (dw j)⟩)/\∀d,d=5\/d=p->(dQ h f ⟨1,n,q+1,o,false,u.set g (dw j)⟩).get d=h.get d:=by
 have I:=e.n7;have J:=e.np;have y:=e.bf f v;have G:=e.m k e.hk;obtain⟨l1,B,z⟩:=e.gc;obtain⟨l2,C,A⟩:=e.gf;have l:∀d,(dQ h f ⟨1,n,q+1,o,false,u.set g (dw j)⟩).get d=if d=f then some ⟨1,n,q+1,o,false,u.set g (dw j)⟩else h.get d:=λd=>dE w _ d;refine⟨e.gen (e.ok.put _ _) (by rw[fG];exact au _) (λd _ _ _ _ D _ _=>(l d).trans (ao λr=>D (by rw[r];exact v))) ⟨l1,B.mono λd r=>(l d).trans (ao λx=>y.2.2 (by rw[<-x];exact r)),z⟩ ⟨l2.set g j,?_,by simpa using A⟩ (e.tx.JU (au _) (by rw[fG];exact au _) λF E d r=>(l d).trans (ao λx=> ?_)) e.xb,λd hr=>(l d).trans (ao dj)⟩
 ·have:=C.setAt v w g (dw j) ((l f).trans (aq rfl));simpa[ge,bR]using this
 ·have:=e.xb F E d r;omega
end
def uX{d k:Int}(h:mc d=k)(f:k≠0):(k=3->d=6\/d=7)/\(k=4->d=8\/d=9)/\(k=5->d=10)/\(k=22->d=26)/\(k=23->d=27):=by
 have g:6<=d/\d<=28:=by
  unfold mc at h;split at h
  ·exact absurd h.symm f
  ·omega
 have e:d=6\/d=7\/d=8\/d=9\/d=10\/d=11\/d=12\/d=13\/d=14\/d=15\/d=16\/d=17\/d=18\/d=19\/d=20\/d=21\/d=22\/d=23\/d=24\/d=25\/d=26\/d=27\/d=28:=dj;rcases e with rfl|rfl|rfl|rfl|rfl|rfl|rfl|rfl|rfl|rfl|rfl|rfl|rfl|rfl|rfl|rfl|rfl|rfl|rfl|rfl|rfl|rfl|rfl<;>simp[mc,vS]at h<;>omega
def HJ(p:Nat)(d:fJ):Prop:=dz d 3 (.ptr 0 0 0 0)/\dz d 4 (.ptr 1 0 0 0)/\dz d 5 (.ptr 2 0 0 0)/\dz d 6 (.ptr 3 0 0 0)/\dz d 7 (.ptr 4 0 0 0)/\dz d 9 (.ptr 5 0 0 0)/\dz d 14 (.ptr p 0 0 0)/\dz d 15 (.ptr (p+1) 0 0 0)
def Ev9(d:dX)(h:H):Prop:=∃e f,h.get 5=some (dy 7 f [dX.t ⟨d.dN,d.kind,d.obj,e,d.iO,d.mf,d.uz⟩])
def Th9(p:Nat)(a b:T)(e f:Int)(h:H):Prop:=∃d,h.get p=some (dy 4 d [.agg [dw e,a,b,dw f]])
def SJ.KS{c:jv}{s:iu}{ch:iN}{i:fF}{S:fg}{k p n0:Nat}{cc cf ct:T}{es:List T}{lo hi:Nat->Nat}{a b:T}{el:List T}{t:dZ}{h:H}(e:SJ c s ch i S k p n0 cc cf ct es lo hi a b el t h){u:iJ}(j:h.get 5=some u){l m:Int}(ht:Th9 p a b l m h)(d:dX)(f:Int)(g:Nat):
 SJ c s ch i S k p n0 cc cf ct es lo hi a b el t (dQ h 5 (dy 7 g [dX.t ⟨d.dN,d.kind,d.obj,f,d.iO,d.mf,d.uz⟩]))/\Ev9 d (dQ h 5 (dy 7 g [dX.t ⟨d.dN,d.kind,d.obj,f,d.iO,d.mf,d.uz⟩]))/\Th9 p a b l m (dQ h 5 (dy 7 g [dX.t ⟨d.dN,d.kind,d.obj,f,d.iO,d.mf,d.uz⟩])):=by
 have v:=e.n7;have w:=e.np;obtain⟨r,o⟩:=ht;exact⟨e.mono (e.ok.put _ _) (by rw[fG];exact au _) λq _ n _=>(dE j _ q).trans (ao n),⟨f,g,(dE j _ 5).trans (aq rfl)⟩,⟨r,(dE j _ p).trans ((ao dj).trans o)⟩⟩
def adc(p:Nat)(ct:T)(m:Int)(h:H):Prop:=∃j d e l g n,h.get p=some (dy 4 n [.agg [dw j,d,e,dw l]])/\d.gD=true/\d.cells=[d]/\e.gD=true/\e.cells=[e]/\io (FT h (λf=>f<h.size/\f≠p/\7<=f/\dL ct≠some f) 3) [dw j,d,e,dw l] (dZ.cs g)/\Ts 1000000 g/\(g.dH=m+1\/g.dH=0)
def Gg:mU Tryz.prog cx 116 (λa:jv×iu×iN=>[a.1.t,a.2.1.t,a.2.2.t]) (λa=>(∀x∈a.1.dB,x.iS.length<=10000001)/\StI a.2.1/\UW 999000 a.2.1) (λa=>Yc a.2.1):=by
 refine iZ (tb:=⟨pt [(149,yV.jb),(107,r8)],ht [(163,jp iu T7 Nd),(164,jp VI MX Bp)]⟩) ei eg (iL 12259964349774246101165194645239424850975965214878597119 [(41,[(1,2)])] Tryz.func116) (λ_=>100) (λa b h=>by simp at h;exact aP (jv.inj h.1) (aP (iu.inj h.2.1) (iN.inj h.2.2))) dp (by simp[Tryz.f116]) ?_;rintro⟨c,s,ch⟩ ⟨fY,I,fS⟩ bk hd;simp only at fY I fS;simp at hd;obtain⟨j0,al,an⟩:=hd;have k3:X8 1000000 s:=λt ht l hl=>((I.t t ht).tn l hl).1;obtain⟨_,⟨u,hG,rfl,kB,hs⟩,gM⟩:=yV.use (c,s,ch.dN) ⟨fY,k3⟩;simp only at gM hs;have hq:Yc s (.tuple [iu.t ⟨⟨[],0,[],[]⟩,[],[],[]⟩,dX.t ⟨0,0,0,0,0,[],[]⟩,.bool false]):=⟨_,_,_,rfl,⟨dp,dp⟩,dp⟩;simp[Tryz.f116,j0,al,an,gM];cases hG with
 |false=>
  simp;exact hq
 |true=>
 obtain⟨t,x,i,X⟩:=hs rfl;obtain⟨px,pE⟩:=Hh X.f.v;have k2:My s.fx:=⟨by have:=I.l;omega,by have:=I.l;omega,by have:=I.l;omega,λl hl=>by have:=I.r.len I.a l hl;omega,I.a⟩;have gE:rl Tryz.prog cx ⟨pt [(149,yV.jb),(107,r8)],ht [(163,jp iu T7 Nd),(164,jp VI MX Bp)]⟩ 107 [c.ez.t,s.fx.t,dw ch.dN,dw u.kind,dw u.obj,dw ch.El]=some (xn (c.ez,s.fx,ch.dN,u.kind,u.obj,ch.El)):=
  gF dp DS (c.ez,s.fx,ch.dN,u.kind,u.obj,ch.El) ⟨dt,k2⟩
 cases fE:jI c.ez s.fx ch.dN u.kind u.obj with
 |false=>
  simp[gE,xn,fE];exact hq
 |true=>
 simp[gE,xn,fE];generalize kg:em c.ez s.fx ch.dN u.kind u.obj ch.El=hY at*
 obtain⟨S,U⟩:=hY;simp;have hl:=I.l;generalize bz:H.cons _ _=bH;have hF:gu 0 bH:=by rw[<-bz];exact⟨dp,dp,dp⟩
 have m5:bH.size=7:=by rw[<-bz];rfl
 have mx:bH.get 0=some (dy 7 0 [c.t]):=by rw[<-bz];simp
 have mA:bH.get 1=some (dy 7 0 [s.t]):=by rw[<-bz];simp
 have mC:bH.get 2=some (dy 2 0 [ch.t]):=by rw[<-bz];simp
 have m0:bH.get 3=some (dy 7 0 [.agg [dx,dw 0,dx,dx,dx,dx,dx]]):=by rw[<-bz];simp
 have m1:bH.get 4=some (dy 7 0 [.agg [dw 0,dw 0,dw 0,dw 0,dw 0,dx,dx]]):=by rw[<-bz];simp
 have m2:bH.get 5=some (dy 7 1 [u.t]):=by rw[<-bz];simp
 have m3:bH.get 6=some (dy 4 1 [S.t]):=by rw[<-bz];simp
 clear bz;refine gJ NT dp s ⟨rfl,hF,⟨rfl,hF,dj,dj,dj,λl q=>by have:=I.r.len I.a l q;omega⟩,dj,dj,dj,λR dv=>⟨by have:=(I.t R dv).rl;omega,by have:=(I.t R dv).tl;omega,λl q=>((I.t R dv).tn l q).1⟩⟩ ?_;rintro _ c4 ⟨nu,nv,nw,cc,cf,ct,es,lo,hi,n0,rfl,F⟩;have m4:=F.nb.ok.sz;have hV:=F.z;rw[m5]at m4 hV;have a1:=(F.nb.get 1 dj).trans mA;have hX:=(F.nb.get 6 dj).trans m3;have a2:=(F.nb.get 2 dj).trans mC;have a0:=(F.nb.get 0 dj).trans mx;obtain⟨eH,nX,eI,cL,c1,n1⟩:=F.k0;have p1:∀y,(dQ c4 1 y).get 1=some y:=λy=>(dE a1 y _).trans (aq rfl);have p6:∀y,(dQ c4 1 y).get 6=c4.get 6:=λy=>(dE a1 y _).trans (ao dj);simp[a1,dP,p1,p6,hX];generalize et:dQ (dQ c4 1 _) 1 _=B;have qa:B.size=c4.size:=by rw[<-et];simp
 have lc:gu 0 c4:=⟨F.nb.ok.hp,F.nb.ok.low,aw _⟩;have okB:gu 0 B:=by rw[<-et];exact(lc.put _ _).put _ _
 have hJ:=(show B.get 1=some (dy 7 2 [.agg [sl (S.dV.map dS.t),dw S.tx,sl (S.done.map T.bool),sl (S.dB.map dD.t),cc,cf,ct]])by rw[<-et];exact(dE (p1 _) _ _).trans (aq rfl));have cb:∀k,k≠1->B.get k=c4.get k:=λk bN=>by rw[<-et,dE (p1 _),ao bN,dE a1,ao bN]
 clear et p1 p6;have hI:=(cb 0 dj).trans a0;have hK:=(cb 2 dj).trans a2;have lD:=(cb 5 dj).trans ((F.nb.get 5 dj).trans m2);have lB:=(cb 3 dj).trans ((F.nb.get 3 dj).trans m0);have lC:=(cb 4 dj).trans ((F.nb.get 4 dj).trans m1);have L:=F.th.mono (h':=B) dj λk bN _=>cb k dj;have bN:=X.n;rw[<-X.f.th]at bN;obtain⟨eX,W⟩:=ff.1 bN;have ca:=X.ht;have fC:∃gP,es[ch.dN.toNat]? =some gP:=⟨_,az (by rw[L.l];exact W)⟩;obtain⟨gP,eR⟩:=fC;obtain⟨a,b,el,rfl,e5⟩:=L.e _ _ _ eR ca;obtain⟨E,gQ,hR,ext,hS,t1,t2,t3,t4⟩:=L.g.ID (te:=Jv) rfl (i:=ch.dN.toNat) (by rw[L.l];exact W);rw[show es[ch.dN.toNat]'(by rw[L.l];exact W)=AE t a b by rw[az (by rw[L.l];exact W)]at eR;simpa using eR]at t4;have h5:=okB.low;have nk:∀k,k<7->(k=B.size)=False:=λk bN=>by simp;omega
 have qw:∀k,k<7->(k=B.size+1)=False:=λk bN=>by simp;omega
 have av:=X.hx;have ho:=X.hi;obtain⟨lv,pa,pb,pd⟩:=X.f.t _ _ _ ca av;have lS:=ed lv;simp[hI,hJ,hK,t2,t3,t4,AE,h5,ed eX,nk,av,ho,lS];have o0:B.size<B.size+1:=dj;generalize ds:dQ ((B.cons _).cons _) (B.size+1) _=a7;have qb:a7.size=B.size+1+1:=by rw[<-ds,fG];rfl
 have lg:gu 0 a7:=by rw[<-ds];exact((okB.cons _).cons _).put _ _
 have hO:a7.get B.size=some (dy 4 1 [.agg [dw t.pC,a,b,dw t.dH]]):=by rw[<-ds,md ((okB.cons _).cons _).hp (by show _<B.size+1+1;omega),ao dj,dM,ao (by show¬_=B.size+1;omega),dM,aq rfl]
 have lG:a7.get (B.size+1)=some (dy 6 1 [i.t]):=by rw[<-ds,md ((okB.cons _).cons _).hp (by show _<B.size+1+1;omega),aq rfl]
 have hN:∀k,k<B.size->a7.get k=B.get k:=λk bN=>by
  rw[<-ds,md ((okB.cons _).cons _).hp (by show _<B.size+1+1;omega),ao dj,dM,ao (by show¬_=B.size+1;omega),dM,ao dj]
 clear ds;have r5:=(hN 5 dj).trans lD;have ii:∀y,(dQ a7 5 y).get 5=some y:=λy=>(dE r5 y _).trans (aq rfl);simp[hO,r5,nD,ii];have lu:gu 0 (dQ a7 5 (dy 7 2 [dX.t ⟨u.dN,u.kind,u.obj,U,u.iO,u.mf,u.uz⟩])):=lg.put _ _;have eM:∀k,(dQ a7 5 (dy 7 2 [dX.t ⟨u.dN,u.kind,u.obj,U,u.iO,u.mf,u.uz⟩])).get k=_:=λk=>dE r5 _ k;have qo:(dQ a7 5 (dy 7 2 [dX.t ⟨u.dN,u.kind,u.obj,U,u.iO,u.mf,u.uz⟩])).size=a7.size:=fG ..;generalize dQ a7 5 (dy 7 2 [dX.t ⟨u.dN,u.kind,u.obj,U,u.iO,u.mf,u.uz⟩])=a8 at*
 have oj:ch.dN.toNat<s.dB.length:=W;obtain⟨pc,pu,o1,_,gp,gv,_,gw,_,_,hQ,_⟩:=GR X.f X.n;rw[ca]at gp;rw[av]at gv;simp only[ar]at gp gv;subst gp;subst gv;rw[ho]at gw;simp only[ar]at gw;subst gw;have ey:∀K:Int,u.kind=K->K≠1->K≠17->K≠0->mc i.op=K:=λK al an a6 b9=>by
  rcases X.k with q|q|q
  ·omega
  ·omega
  ·omega
 have fL:=fE;unfold jI at fL;simp only[aB]at fL;have eV:=fL.1.2;have hj:u.kind=3\/u.kind=4->iP u.obj s.cells.length=true:=λq=>by
  rw[X.f.cl];unfold jy at eV;rcases q with q|q<;>simpa[q]using eV
 have hn:u.kind=22\/u.kind=23->iP u.obj s.dT.length=true:=λq=>by
  rw[X.f.fu];unfold jy at eV;rcases q with q|q<;>simpa[q]using eV
 have hL:u.kind=3\/u.kind=23\/u.kind=5->0<=i.a/\i.a<x.iA:=λq=>by
  refine hQ _ ?_;unfold iC;rcases q with q|q|q
  ·rcases(uX (ey 3 q dj dj dj) dj).1 rfl with k|k<;>simp[k]
  ·simp[(uX (ey 23 q dj dj dj) dj).2.2.2.2 rfl]
  ·simp[(uX (ey 5 q dj dj dj) dj).2.2.1 rfl]
 have hM:u.kind=4\/u.kind=22->0<=i.b/\i.b<x.iA:=λq=>by
  refine hQ _ ?_;unfold iC;rcases q with q|q
  ·rcases(uX (ey 4 q dj dj dj) dj).2.1 rfl with k|k<;>simp[k]
  ·simp[(uX (ey 22 q dj dj dj) dj).2.2.2.1 rfl]
 have M:SJ c s ch i S ch.dN.toNat B.size n0 cc cf ct es lo hi a b el t a8:=by
  have bB:∀k,k<B.size->k≠5->a8.get k=B.get k:=λk al an=>(eM k).trans ((ao an).trans (hN k al));have o2:=L.m _ W;have la:n0<=B.size:=by have:=F.zn;omega
  refine⟨lu,dj,hV,la,(bB 0 dj dj).trans hI,(bB 1 dj dj).trans hJ,(bB 2 dj dj).trans hK,(bB 3 dj dj).trans lB,(bB 4 dj dj).trans lC,?_,
   ⟨_,F.gc.mono λq x=> ?_,dp⟩,⟨_,F.gf.mono λq x=> ?_,dp⟩,λq x=> ?_,λq x=> ?_,L.g.mono λq x=> ?_,L.l,L.m,L.d,λq x=> ?_,λj u R eS fC dv=> ?_,W,⟨_,_,eR⟩,e5.JU dj dj λv eW q x=> ?_,λv eW q x=> ?_⟩
  ·exact(eM _).trans ((ao dj).trans lG)
  ·have:=F.bc q x;exact(bB q dj dj).trans (cb q dj)
  ·have:=F.bf q x;exact(bB q dj dj).trans (cb q dj)
  ·have:=F.bc q x;omega
  ·have:=F.bf q x;exact⟨dj,this.2.1,this.2.2⟩
  ·obtain⟨_,_,_,_,g,_⟩:=L.g.box x;have:=(L.c q x).1;exact bB q (H.ej g) dj
  ·obtain⟨_,_,_,_,g,_⟩:=L.g.box x;exact⟨(L.c q x).1,H.ej g,(L.c q x).2⟩
  ·obtain⟨e8,e9,Me,rfl,lT⟩:=L.e j u R fC dv;have k7:=L.m j (List.getElem?_eq_some_iff.1 dv).1;exact .inr (.inr ⟨_,_,rfl,(lT.mono (h':=a8) (au _) (au _) λq al an=>bB q dj dj).fz _ λq al an=>⟨al,an⟩,rfl⟩)
  all_goals
   have hg:lo ch.dN.toNat<=q/\q<hi ch.dN.toNat:=by
    rcases eW with rfl|rfl|eW
    ·have:=e5.ba q x;omega
    ·exact e5.bb q x
    ·obtain⟨_,w⟩:=e5.el.left eW;have:=w.2 q x;exact⟨this.1,this.2.1⟩
  ·exact bB q dj dj
  ·exact⟨hg.1,.inl hg.2⟩
 refine PU (λbk h=>HJ B.size bk/\(∃n,dz bk 16 (dw n))/\SJ c s ch i S ch.dN.toNat B.size n0 cc cf ct es lo hi a b el t h/\Ev9 u h/\Th9 B.size a b t.pC t.dH h) ?_ ?_
 ·have Q:=(eM 5).trans (aq rfl);have dn:=(eM B.size).trans ((ao dj).trans hO);have eE:Ev9 u a8:=⟨U,2,Q⟩;have bT:Th9 B.size a b t.pC t.dH a8:=⟨1,dn⟩;cases nA:decide (u.kind=1)with
  |true=>
   simp[dn,HJ];exact⟨M,eE,bT⟩
  |false=>
  cases b7:decide (u.kind=16)with
  |true=>
   simp[b7,dn,HJ];exact⟨M,eE,bT⟩
  |false=>
  cases ce:decide (u.kind=2)with
  |true=>
   simp[b7,ce,dn,HJ];exact⟨M,eE,bT⟩
  |false=>
  cases cp:decide (u.kind=3)with
  |true=>
   obtain⟨l1,bC,bS⟩:=M.gc;have bi:=ff.1 (hj (.inl (by simpa using cp)));obtain⟨p1,P,bl⟩:=(show oO a8 1 cc (ge l1)from .inr bC).idx (te:=FJ) rfl rfl (i:=u.obj.toNat) (x:= dw l1[u.obj.toNat]) (by simp[bS,bi.2]) rfl;simp[b7,ce,cp,Q,M.b1,ed bi.1,P,bl,HJ];exact M.KS Q bT u _ _
  |false=>
  cases dk:decide (u.kind=23)with
  |true=>
   obtain⟨l1,bC,bS⟩:=M.gf;have bi:=ff.1 (hn (.inr (by simpa using dk)));obtain⟨p1,P,bl⟩:=(show oO a8 1 cf (ge l1)from .inr bC).idx (te:=FJ) rfl rfl (i:=u.obj.toNat) (x:= dw l1[u.obj.toNat]) (by simp[bS,bi.2]) rfl;simp[b7,ce,cp,dk,Q,M.b1,ed bi.1,P,bl,HJ];exact M.KS Q bT u _ _
  |false=>
  have fl:oO a8 1 a (ge t.iA):= .inr M.tx.ga;have e4:∀x y:Int,mt (dw x) 0 [dw y]=some (dw y):=λx y=>rfl;cases dm:decide (u.kind=4)with
  |true=>
   have gn:=hM (.inl (by simpa using dm));have bi:=ff.1 (hj (.inr (by simpa using dm)));obtain⟨p1,P,bl⟩:=fl.idx (te:=FJ) rfl rfl (i:=i.b.toNat) (x:= dw t.iA[i.b.toNat]) (by simp[show i.b.toNat<t.iA.length by omega]) rfl;obtain⟨aA,aE,t5⟩:=M.KS Q bT u t.iA[i.b.toNat] 3;have c1:=(dE Q (dy 7 3 [dX.t ⟨u.dN,u.kind,u.obj,t.iA[i.b.toNat],u.iO,u.mf,u.uz⟩]) 5).trans (aq rfl);simp[b7,ce,cp,dk,dm,Q,dn,M.bq,ed gn.1,P,bl,HJ];generalize dQ a8 5 (dy 7 3 [dX.t ⟨u.dN,u.kind,u.obj,t.iA[i.b.toNat],u.iO,u.mf,u.uz⟩])=ap at*
   obtain⟨l1,bC,bS⟩:=aA.gc;obtain⟨q,ae,l9,gS,mj,gj,gk,eB,eC⟩:=bC.ID (te:=FJ) rfl (i:=u.obj.toNat) (by simpa[bS]using bi.2);simp at eC;obtain⟨gi,eo⟩:=aA.cell gj eB u.obj.toNat t.iA[i.b.toNat];simp[aA.b1,c1,ed bi.1,gk,eB,eC,e4];obtain⟨gz,gB,gg⟩:=aE;obtain⟨eb,c9⟩:=t5;exact⟨gi,⟨gz,gB,(eo 5 (.inl rfl)).trans gg⟩,eb,(eo _ (.inr rfl)).trans c9⟩
  |false=>
  cases ef:decide (u.kind=22)with
  |true=>
   have gn:=hM (.inr (by simpa using ef));have bi:=ff.1 (hn (.inl (by simpa using ef)));obtain⟨p1,P,bl⟩:=fl.idx (te:=FJ) rfl rfl (i:=i.b.toNat) (x:= dw t.iA[i.b.toNat]) (by simp[show i.b.toNat<t.iA.length by omega]) rfl;obtain⟨aA,aE,t5⟩:=M.KS Q bT u t.iA[i.b.toNat] 3;have c1:=(dE Q (dy 7 3 [dX.t ⟨u.dN,u.kind,u.obj,t.iA[i.b.toNat],u.iO,u.mf,u.uz⟩]) 5).trans (aq rfl);simp[b7,ce,cp,dk,dm,ef,Q,dn,M.bq,ed gn.1,P,bl,HJ];generalize dQ a8 5 (dy 7 3 [dX.t ⟨u.dN,u.kind,u.obj,t.iA[i.b.toNat],u.iO,u.mf,u.uz⟩])=ap at*
   obtain⟨l1,bC,bS⟩:=aA.gf;obtain⟨q,ae,l9,gS,mj,gj,gk,eB,eC⟩:=bC.ID (te:=FJ) rfl (i:=u.obj.toNat) (by simpa[bS]using bi.2);simp at eC;obtain⟨gi,eo⟩:=aA.fut gj eB u.obj.toNat t.iA[i.b.toNat];simp[aA.b1,c1,ed bi.1,gk,eB,eC,e4];obtain⟨gz,gB,gg⟩:=aE;obtain⟨eb,c9⟩:=t5;exact⟨gi,⟨gz,gB,(eo 5 (.inl rfl)).trans gg⟩,eb,(eo _ (.inr rfl)).trans c9⟩
  |false=>
  cases fe:decide (u.kind=5)with
  |false=>
   simp[b7,ce,cp,dk,dm,ef,fe,HJ];exact⟨M,eE,bT⟩
  |true=>
   have e3:=hL (.inr (.inr (by simpa using fe)));obtain⟨p1,P,bl⟩:=fl.idx (te:=FJ) rfl rfl (i:=i.a.toNat) (x:= dw t.iA[i.a.toNat]) (by simp[show i.a.toNat<t.iA.length by omega]) rfl;obtain⟨aA,aE,t5⟩:=M.KS Q bT u 1 3;have c1:=(dE Q (dy 7 3 [dX.t ⟨u.dN,u.kind,u.obj,1,u.iO,u.mf,u.uz⟩]) 5).trans (aq rfl);simp[b7,ce,cp,dk,dm,ef,fe,Q,HJ];generalize dQ a8 5 (dy 7 3 [dX.t ⟨u.dN,u.kind,u.obj,1,u.iO,u.mf,u.uz⟩])=ap at*
   obtain⟨p1,P,bl⟩:=(show oO ap 1 a (ge t.iA)from .inr aA.tx.ga).idx (te:=FJ) rfl rfl (i:=i.a.toNat) (x:= dw t.iA[i.a.toNat]) (by simp[show i.a.toNat<t.iA.length by omega]) rfl;obtain⟨eb,c9⟩:=t5;obtain⟨hy,l7,t6⟩:=aA.KS c1 ⟨eb,c9⟩ u 0 4;have h4:=hy.bq;simp[c9,aA.bq,ed e3.1,P,bl];refine dU (λq=> ?_) (λq=> ?_)
   ·simp[c1,h4];exact⟨hy,l7,t6⟩
   ·simp;exact⟨aA,aE,eb,c9⟩
 ·rintro bk h ⟨⟨a6,b9,ap,bn,bs,bu,aX,b8⟩,⟨dd,eO⟩,A,⟨v,aE,aN⟩,b6,ae⟩;simp[bu,aN];have o5:=A.ok;refine lh (λbk h=>HJ B.size bk/\(∃n,dz bk 16 (dw n))/\∃Me t',t'.pC=t.pC/\t'.dH=t.dH/\Ts 1000000 t'/\SJ c s ch i S ch.dN.toNat B.size n0 cc cf ct es lo hi a b Me t' h/\Ev9 u h/\Th9 B.size a b t.pC t.dH h) (λG=> ?_) (λG=> ?_) ?_
  ·have e3:=hL (by simpa[or_assoc]using(by simpa using G:u.kind=3\/u.kind=23).elim .inl λq=> .inr (.inl q));have ov:el.length=t.jN.length:=A.tx.el.length;have j5:i.a.toNat<t.iA.length:=dj;have j6:i.a.toNat<el.length:=dj;obtain⟨Y,ia,mb,ib,mq,eu,kb,fA,hf⟩:=A.tx.ga.ID (te:=FJ) rfl (i:=i.a.toNat) (by simpa using j5);simp at hf;have e4:∀x y:Int,mt (dw x) 0 [dw y]=some (dw y):=λx y=>rfl;have k9:=A.n7;have o4:=A.np;have oW:=A.z;have hh:=A.tx.ba Y eu;have oT:=A.xb a (.inl rfl) Y eu;have oA:=A.m _ A.hk;simp[bu,aX,b8,ae,aN,A.bq,ed e3.1,kb,fA,hf,e4];generalize k6:iJ.mk 1 ia (mb+1) ib false (mq.set i.a.toNat (dw v))=de at*
   have ec:∀w,(dQ h Y de).get w=if w=Y then some de else h.get w:=λw=>dE fA de w;have lb:gu 0 (dQ h Y de):=A.ok.put _ _;have pD:(dQ h Y de).size=h.size:=fG ..;have h6:=(ec B.size).trans ((ao dj).trans ae);have h7:=(ec (B.size+1)).trans ((ao dj).trans A.bq);have nE:=(ec 5).trans ((ao dj).trans aN);generalize oi:dQ h Y de=J at*
   have eN:Gr J b 1 el:=A.tx.gb.mono λw hr=>(ec w).trans (ao λx=>hh.2.2 (by rw[<-x];exact hr));obtain⟨Z,eh,e6,eF,e7,c6,kk,eP,fB⟩:=(eN.mono (h':=J.cons (dy 1 0 [dw t.dH])) λw hr=>by rw[dM,ao (by have:=(A.tx.bb w hr).2;omega)]).ID (te:=pX) rfl (i:=i.a.toNat) j6;obtain⟨nB,kp,lE⟩:=A.tx.el.get (az (show i.a.toNat<t.jN.length by omega));have lR:=H3 (x:= .arr J.size 0 0 1 false) lE.1.na;replace fB:=fB.trans ((az _).symm.trans kp);have kn:b= .arr Z eh 0 el.length false:=by
    obtain⟨_,_,_,_,q,u⟩:=(eN.mono (h':=J.cons (dy 1 0 [dw t.dH])) λw hr=>by rw[dM,ao (by have:=(A.tx.bb w hr).2;omega)]).box c6;rw[eP]at q;simp at q;rw[u,q.1]
   simp[aX,b8,eO,h6,h7,ed e3.1,kk,eP,fB,lR];have n9:=A.tx.bb Z c6;have oV:=A.xb b (.inr (.inl rfl)) Z c6;have kd:Y≠Z:=λq=>hh.2.2 (by rw[q];exact c6);have lp:gu 0 (dQ (J.cons (dy 1 0 [dw t.dH])) Z ⟨1,eh,e6+1,eF,false,e7.set i.a.toNat (.arr J.size 0 0 1 false)⟩):=(lb.cons _).put _ _;have qi:(dQ (J.cons (dy 1 0 [dw t.dH])) Z ⟨1,eh,e6+1,eF,false,e7.set i.a.toNat (.arr J.size 0 0 1 false)⟩).size=h.size+1:=by rw[fG];show J.size+1=_;omega
   have eD:∀w,(dQ (J.cons (dy 1 0 [dw t.dH])) Z ⟨1,eh,e6+1,eF,false,e7.set i.a.toNat (.arr J.size 0 0 1 false)⟩).get w=if w=Z then some ⟨1,eh,e6+1,eF,false,e7.set i.a.toNat (.arr J.size 0 0 1 false)⟩else if w=J.size then some (dy 1 0 [dw t.dH])else if w=Y then some de else h.get w:=λw=>(dE eP _ w).trans (by rw[dM,ec]);generalize dQ (J.cons _) Z _=fs at*
   have jC:=(eN.mono (h':=J.cons (dy 1 0 [dw t.dH])) λw hr=>by rw[dM,ao (by have:=(A.tx.bb w hr).2;omega)]).setAt c6 eP i.a.toNat (.arr J.size 0 0 1 false) (h':=fs) ((eD Z).trans (aq rfl));have jj:=A.tx.ga.setAt eu fA i.a.toNat (dw v) (h':=fs) ((eD Y).trans ((ao kd).trans ((ao dj).trans ((aq rfl).trans (by rw[k6])))));have di:∀w,w<h.size->w≠Y->w≠Z->fs.get w=h.get w:=λw al an a6=>(eD w).trans ((ao a6).trans ((ao dj).trans (ao an)));have h8:∀w,dL a=some w->w=Y:=λw hr=>by rw[eu]at hr;simpa using hr.symm
   have h9:∀w,dL b=some w->w=Z:=λw hr=>by rw[c6]at hr;simpa using hr.symm
   have od:=fS t (ax ca);have gd:=I.t t (ax ca);have e2:∀w,dL a≠some w->dL b≠some w->w≠Y/\w≠Z:=λw al an=>⟨λx=>al (by rw[x];exact eu),λx=>an (by rw[x];exact c6)⟩;refine⟨by simp[HJ,a6,b9,ap,bn,bs,bu,aX,b8],el.set i.a.toNat (.arr J.size 0 0 1 false),⟨t.pC,t.iA.set i.a.toNat v,t.jN.set i.a.toNat [t.dH],t.dH⟩,rfl,rfl,⟨by simpa using gd.rl,by simpa using gd.tl,λl hl=> ?_⟩,
    A.gen lp dj (λw al an a6 _ _ bn bs=>di w al (e2 w bn bs).1 (e2 w bn bs).2) ?_ ?_ ⟨by simpa[ge,bR]using jj,jC,A.tx.el.set i.a.toNat ⟨.inr ?_,λw hr=> ?_⟩ λu l q=>⟨q.1.mono λw hr=> ?_,λw hr=> ?_⟩,λw hr=> ?_,λw hr=> ?_⟩ λU hw w hr=> ?_,⟨v,aE,(di 5 dj dj dj).trans aN⟩,b6,(di _ dj dj dj).trans ae⟩
   ·rcases bV hl with q|rfl
    ·exact gd.tn l q
    ·exact⟨dp,λx av=>by simp at av;subst av;omega⟩
   ·obtain⟨l1,eH,P⟩:=A.gc;exact⟨l1,eH.mono λw hr=>by have:=A.bc w hr;exact di w dj dj dj,P⟩
   ·obtain⟨l1,eH,P⟩:=A.gf;exact⟨l1,eH.mono λw hr=>by have:=A.bf w hr;exact di w dj dj dj,P⟩
   ·have:=Gr.new ((eD J.size).trans ((ao dj).trans (aq rfl)));simpa using this
   ·simp at hr;subst hr;exact⟨dj,dj,λq=>by have:=h8 _ q;omega,λq=>by have:=h9 _ q;omega⟩
   ·obtain⟨W,hA,e0,e1⟩:=q.2 w hr;exact di w hA (e2 w e0 e1).1 (e2 w e0 e1).2
   ·obtain⟨W,hA,e0,e1⟩:=q.2 w hr;exact⟨W,dj,e0,e1⟩
   ·have:=A.tx.ba w hr;exact⟨this.1,dj,this.2.2⟩
   ·have:=A.tx.bb w hr;exact⟨this.1,dj⟩
   ·rcases hw with rfl|rfl|hw
    ·exact A.xb _ (.inl rfl) w hr
    ·exact A.xb _ (.inr (.inl rfl)) w hr
    ·rcases bV hw with q|rfl
     ·exact A.xb U (.inr (.inr q)) w hr
     ·simp at hr;subst hr;omega
  ·simp[HJ,a6,b9,ap,bn,bs,bu,aX,b8,eO];exact⟨el,t,rfl,rfl,I.t _ (ax ca),A,⟨v,aE,aN⟩,b6,ae⟩
  rintro bk h ⟨⟨a6,b9,ap,bn,bs,bu,aX,b8⟩,⟨dd,eO⟩,Me,t',oB,oC,ea,A,⟨v,aE,aN⟩,b6,ae⟩;have er:∀y,(dQ h B.size y).get B.size=some y:=λy=>(dE ae y _).trans (aq rfl);have ha:∀y,∀q,q<7->(dQ h B.size y).get q=h.get q:=λy q G=>(dE ae y _).trans (ao dj);have gZ:∀y C,(dQ (dQ h B.size y) B.size C).get B.size=some C:=λy C=>(dE (er y) C _).trans (aq rfl);have fo:∀y C,∀q,q<7->(dQ (dQ h B.size y) B.size C).get q=h.get q:=λy C q G=>(dE (er y) C _).trans ((ao dj).trans (ha y q G));simp[bu,aX,eO,aN,ae,nD,dP,er,fo];have kn:=fS t (ax ca);have k5:IntKind.i64.wrap (t.dH+1)=t.dH+1:=by rw[<-ji,jr dj dj]
  rw[k5];have NR:gu 0 (dQ (dQ h B.size (dy 4 (b6+1) [.agg [dw t.pC,a,b,dw (t.dH+1)]])) B.size ⟨4,0,b6+1+1,true,false,[.agg [dw dd,a,b,dw (t.dH+1)]]⟩):=(A.ok.put _ _).put _ _;have D:=A.mono NR (by rw[fG,fG];exact au _) λq _ _ G=>by rw[dE (er _),ao G,dE ae,ao G]
  have gI:=(fo (dy 4 (b6+1) [.agg [dw t.pC,a,b,dw (t.dH+1)]]) ⟨4,0,b6+1+1,true,false,[.agg [dw dd,a,b,dw (t.dH+1)]]⟩ 5 dj).trans aN;have gm:=gZ (dy 4 (b6+1) [.agg [dw t.pC,a,b,dw (t.dH+1)]]) ⟨4,0,b6+1+1,true,false,[.agg [dw dd,a,b,dw (t.dH+1)]]⟩;generalize dQ (dQ h B.size _) B.size _=hb at*
  clear er ha gZ fo A ae aN;refine lh (λbk h=>HJ B.size bk/\SJ c s ch i S ch.dN.toNat B.size n0 cc cf ct es lo hi a b Me t' h/\Ev9 u h/\adc B.size ct t.dH h) (λG=> ?_) (λG=> ?_) ?_
  ·have k4:=ax av;simp[a6,ap,aX,D.b0,D.b2,ed eX,av,gm];refine gJ Ns dp ⟨x,⟨dd,t'.iA,t'.jN,t.dH+1⟩,a,b,Me,7,hb.size,1000000⟩ ⟨rfl,D.tx.same rfl rfl,au _,NR,⟨ea.rl,ea.tl,ea.tn⟩,au _,fY x k4⟩ ?_;rintro _ hE ⟨R,hG,rfl,gy,hP,qe,fi,hD⟩;have qc:=D.z;have hH:=(fi B.size dj).trans gm;have fm:∀y,∀q,(dQ hE B.size y).get q=if q=B.size then some y else hE.get q:=λy q=>dE hH y q;simp[HJ,a6,b9,ap,bn,bs,bu,aX,b8,hH,dP];have hW:=D.mono (h':=hE) hD dj λq G _ _=>fi q G;refine⟨hW.mono (hD.put _ _) (by rw[fG];exact au _) λq _ _ G=>(fm _ q).trans (ao G),⟨v,aE,(fm _ 5).trans ((ao dj).trans ((fi 5 dj).trans gI))⟩,R.pC,sl (ge R.iA),sl (R.jN.map X9),R.dH,R,_,(fm _ _).trans (aq rfl),dp,dp,dp,dp,?_,gy,hP⟩;exact .cons (fR ..) (.cons (ou _ _ _ λx av=>(GQ _ x av).1) (.cons (ou _ _ _ λx av=>by obtain⟨l,_,rfl⟩:=List.mem_map.1 av;simp[X9]) (.cons (fR ..) .nil)))
  ·simp[HJ,a6,b9,ap,bn,bs,bu,aX,b8];refine⟨D,⟨v,aE,gI⟩,_,_,_,_,⟨dd,t'.iA,t'.jN,t.dH+1⟩,_,gm,D.tx.ga.gD,D.tx.ga.cells,D.tx.gb.gD,D.tx.gb.cells,(D.tx.same (s':=⟨dd,t'.iA,t'.jN,t.dH+1⟩) rfl rfl).fzB _ λU hw q x=> ?_,⟨ea.rl,ea.tl,ea.tn⟩,.inl rfl⟩;have pm:=D.xb U hw q x;have pn:=D.m _ D.hk;have ps:=D.n7;have mi:q<hb.size:=by
    rcases hw with rfl|rfl|hw
    ·exact(D.tx.ba q x).2.1
    ·exact(D.tx.bb q x).2
    ·obtain⟨_,w⟩:=D.tx.el.left hw;exact(w.2 q x).2.1
   exact⟨mi,dj,dj,λy=>by have:=D.bt q y;have:=this.2.2 _ D.hk;omega⟩
  rintro bk h ⟨⟨a6,b9,ap,bn,bs,bu,aX,b8⟩,A,⟨v,aE,aN⟩,hB,e8,e9,hC,R,pe,lw,n2,n5,eN,n8,lX,gy,hP⟩;obtain⟨E,gQ,hR,ext,hS,t1,t2,t3,t4⟩:=A.gt.ID (te:=Jv) rfl (i:=ch.dN.toNat) (by rw[A.l];exact W);obtain⟨gS,nF,kD⟩:=A.ek;replace t4:=t4.trans ((az _).symm.trans kD);have nr:=A.bt E t1;obtain⟨l1,bC,bS⟩:=A.gc;obtain⟨l2,jZ,k1⟩:=A.gf;generalize hv:iJ.mk 4 gQ (hR+1) ext false (hS.set ch.dN.toNat (.agg [dw hB,e8,e9,dw hC]))=O;have gV:∀q,(dQ h E O).get q=if q=E then some O else h.get q:=λq=>dE t3 O q;have eL:∀q,q<7->(dQ h E O).get q=h.get q:=λq G=>(gV q).trans (ao dj);have hZ:=(eL 1 dj).trans A.b1;have fb:=(eL 3 dj).trans A.b3;have nn:=(eL 4 dj).trans A.b4;have h3:=(eL 5 dj).trans aN;have eI:∀y q,(dQ (dQ h E O) 3 y).get q=if q=3 then some y else if q=E then some O else h.get q:=λy q=>(dE fb y q).trans (by rw[gV]);have cL:∀y C q,(dQ (dQ (dQ h E O) 3 y) 4 C).get q=if q=4 then some C else if q=3 then some y else if q=E then some O else h.get q:=λy C q=>(dE ((eI y 4).trans ((ao dj).trans ((ao dj).trans A.b4))) C q).trans (by rw[eI]);have o3:(3=E)=False:=dq;have k8:(4=E)=False:=dq;have sv:∀y,ew (dQ h E O) (dQ (dQ h E O) 3 y) 5=true:=λy=>mv fb dj y;have ic:∀y C,TI.fz (dQ (dQ (dQ h E O) 3 y) 4 C) cc=some (sl (ge l1)):=λy C=>(bC.mono (h':=dQ (dQ (dQ h E O) 3 y) 4 C) λq x=>by
   have:=A.bc q x;rw[cL,ao dj,ao dj,ao dj]).fz dp
  have ie:∀y C,TI.fz (dQ (dQ (dQ h E O) 3 y) 4 C) cf=some (sl (ge l2)):=λy C=>(jZ.mono (h':=dQ (dQ (dQ h E O) 3 y) 4 C) λq x=>by
   have:=A.bf q x;rw[cL,ao dj,ao dj,ao dj]).fz dp
  have ih:∀y C,TI.fz (dQ (dQ (dQ h E O) 3 y) 4 C) ct=some (sl ((s.dB.set ch.dN.toNat R).map dZ.t)):=λy C=>by
   refine(A.gt.setAt t1 t3 ch.dN.toNat (.agg [dw hB,e8,e9,dw hC]) (h':=dQ (dQ (dQ h E O) 3 y) 4 C) (by rw[cL,ao dj,ao dj,aq rfl,hv])).IP (V:=λ_=>True) (d:=4) dj (AW (by simp[A.l]) λj x U eA hw=> ?_);rw[aQ]at hw;obtain⟨lW,c7,rfl⟩:=Option.map_eq_some_iff.1 hw;by_cases eS:j=ch.dN.toNat
   ·subst eS;rw[dg (by rw[A.l];exact W)]at eA;rw[dg W]at c7;simp at eA c7;subst eA;subst c7;exact .inr (.inr ⟨_,_,rfl,lX.imp λ_ _ k=>k.mono λq G=>⟨trivial,by rw[cL,ao dj,ao dj,ao (λx=>G.2.2.2 (by rw[x];exact t1))]⟩,rfl⟩)
   ·rw[cA (λx=>eS x.symm)]at eA c7;have k7:=A.m j (List.getElem?_eq_some_iff.1 c7).1;have k9:=A.n7;refine(A.o j x lW eS eA c7).mono λq G=>⟨trivial,?_⟩;rw[cL,ao dj,ao dj,ao (λx=>(A.bt E t1).2.2 j (List.getElem?_eq_some_iff.1 c7).1 (by rw[<-x];exact G))]
  simp[b9,ap,bn,bs,bu,aX,A.b1,A.b2,ed eX,lw,t2,t3,t4,dP,hv,hZ,fb,h3,eI,cL,k8,A.b4,sv,ic,ie,ih,A.ok.hp];have fv:S=(em c.ez s.fx ch.dN u.kind u.obj ch.El).1:=by rw[kg]
  have eU:=xp c.ez s.fx ch.dN u.kind u.obj ch.El;rw[<-fv]at eU;refine⟨⟨S,l1,l2,s.dB.set ch.dN.toNat R⟩,⟨u.dN,u.kind,u.obj,v,u.iO,u.mf,u.uz⟩,true,by simp[iu.t,iu.cs,bR],kB,λ_=>⟨⟨⟨by rw[eU.1];omega,by rw[eU.2.1];omega,by rw[eU.2.2];omega,by rw[bS];omega,by rw[k1];omega,dq⟩,?_,?_,λU hw=> ?_⟩,λN hc U hw=> ?_⟩⟩
  ·rw[fv];refine Cu I.r _ ⟨eX,?_⟩ _ _ _;have:=X.f.th;omega
  ·rw[fv];exact xq I.a _ _ _ _ _
  ·rcases bV hw with q|rfl
   ·exact I.t U q
   ·exact gy
  ·rcases bV hw with q|rfl
   ·have:=hc U q;omega
   ·have:=hc t (ax ca);omega
end
end Go.Proofs.YtmaeadedikngoaaGreatDoor
