/- Texts W09e to W09e. -/
import Derived.Test.YtmaeadedikngoaaGreatDoorA32
set_option linter.all false
set_option maxRecDepth 100000
set_option maxHeartbeats 8000000
namespace Go.Proofs.YtmaeadedikngoaaGreatDoor
noncomputable section
open Go Go.TI
attribute [-simp] List.map_take List.map_drop List.map_append fw eQ dZ Bool.not_or Bool.not_and
attribute [simp] fq eY
attribute [-simp] size_cons
def PM{j:Out}{e f:iB}(o:W j e)(q:∀d h,e.n d h->f.n d h)(v:∀i d h,e.x i d h->f.x i d h)(u:∀d h,e.r d h->f.r d h):W j f:=by
 obtain⟨l,d,h,m,g⟩:=o;refine⟨l,d,h,m,?_⟩;cases l with
 |normal=>exact q d h g
 |exit i=>exact v i d h g
 |ret=>exact u d h g
def Qa{cx:Ctx}{cf:iL}{z y id:Nat}{u:DL}{t:Bool}{a b:Code}{m:Env->H->Out}{d:Env}{h:H}{f:iB}(l:fN->H->Prop)(v:CK (some (.bool t)) cx cf z y u a b d h (Ev m (qV id (xi (λd h=>d.tmps= .nil/\l d.vars h) f))))
 (B:∀o h,l o h->f.n ⟨o,.nil⟩ h):CK (some (.bool t)) cx cf z y u a b d h (Ev m (qV id f)):=by
 have q:∀d h,(d.tmps= .nil/\l d.vars h)->f.n d h:=λd h ⟨e,w⟩=>by obtain⟨o,C⟩:=d;simp only at e w;subst e;exact B o h w
 have A:∀g,W g (qV id (xi (λd h=>d.tmps= .nil/\l d.vars h) f))->W g (qV id f):=λg r=>PM r q (λi d h e=>by
  rw[ye]at e|-;split
  ·rename_i j;rw[aq j]at e;exact q d h e
  ·rename_i j;rw[ao j]at e;exact e) λ_ _ e=>e
 have x:∀g,W g (Ev m (qV id (xi (λd h=>d.tmps= .nil/\l d.vars h) f)))->W g (Ev m (qV id f)):=λg r=>PM r (λd h e=>A _ e) (λi d h e=>by
  rw[UP,ye]at e|-;split
  ·rename_i j;rw[aq j]at e;exact q d h e
  ·rename_i j;rw[ao j]at e;exact e) λ_ _ e=>e
 cases t
 ·exact x _ v
 ·exact x _ v
structure StI(s:iz):Prop where
 l:s.fF.dY.length<=1000/\s.fF.done.length<=1000/\s.fF.dE.length<=1000/\s.cells.length<=1000/\s.dX.length<=1000/\s.dE.length<=1000
 r:HK 4 s.fF
 a:s.fF.D0
 t:∀t∈s.dE,TJ 1000000 t
def U8(d:Nat)(s:iz):Prop:=∀t∈s.dE,0<=t.dK/\t.dK<=d
def Ym(s:iz)(j:T):Prop:=∃(d:iz) (f:ed) (g:Bool),j= .tuple [d.t,f.t,.bool g]/\evN 1000000 f/\(g=true->StI d/\∀e:Nat,U8 e s->U8 (e+1) d)
def At.J6{lo l hi j:Nat}{h h':H}{a b:T}{es:List T}{s:ee}(t:At lo hi h a b es s)(hl:l<=lo)(r:hi<=j)(f:∀e,(e=a\/e=b\/e∈es)->∀c,dO e=some c->h'.get c=h.get c):At l j h' a b es s:=
 ⟨t.ga.mono λc d=>f a (.inl rfl) c d,t.gb.mono λc d=>f b (.inr (.inl rfl)) c d,t.el.imp_mem λm n u d=>⟨d.1.mono λc g=>f m (.inr (.inr n)) c g,λc g=>by
   obtain⟨v,w,o,q⟩:=d.2 c g;exact⟨dq,dq,o,q⟩⟩,λc d=>by have:=t.ba c d;exact⟨dq,dq,this.2.2⟩,λc d=>by have:=t.bb c d;exact⟨dq,dq⟩⟩
def At.fzB{lo hi:Nat}{h:H}{a b:T}{es:List T}{s:ee}(t:At lo hi h a b es s)(o:Nat->Prop)(n:∀m,(m=a\/m=b\/m∈es)->∀c,dO m=some c->o c):iv (FT h o 3) [dy s.pC,a,b,dy s.dK] s.cs:=
 .cons (fW ..) (.cons ((show oS h 1 a (gG s.iE)from .inr t.ga).ft (d:=1) (GL _) λc g=>n a (.inl rfl) c g)
  (.cons (t.gb.ft (λc g=>n b (.inr (.inl rfl)) c g) ((t.el.imp_mem (R':=λe j=>oS h 1 e (gG j)/\e∈es) λe q j l=>⟨l.1,q⟩).UI (f:=λj=>sl (gG j)) λe j l=>l.1.ft (d:=0) (GL _) λc g=>n e (.inr (.inr l.2)) c g)) (.cons (fW ..) .nil)))
def A4{g j:Type}{l:g->j->Prop}:∀{e:List g} {f:List j},e.length=f.length->(∀(d:Nat) (a:g) (b:j),e[d]? =some a->f[d]? =some b->l a b)->iv l e f
 | [],[],_,_=> .nil
 |a::e,b::f,hl,h=> .cons (h 0 a b rfl rfl) (A4 (by simpa using hl) λd o q m n=>h (d+1) o q (by simpa using m) (by simpa using n))
 | [],_::_,hl,_=>by simp at hl
 |_::_,[],hl,_=>by simp at hl
structure SJ(c:jz)(s:iz)(ch:iR)(i:fI)(S:fk)(k p n0:Nat)(cc cf ct:T)(es:List T)(lo hi:Nat->Nat)(a b:T)(el:List T)(t:ee)(h:H):Prop where
 ok:gF 0 h
 z:p+1+1<=h.size
 n7:7<=n0
 np:n0<=p
 b0:h.get 0=some (dA 7 0 [c.t])
 b1:h.get 1=some (dA 7 2 [.agg [sl (S.dY.map dV.t),dy S.tx,sl (S.done.map T.bool),sl (S.dE.map dG.t),cc,cf,ct]])
 b2:h.get 2=some (dA 2 0 [ch.t])
 b3:h.get 3=some (dA 7 0 [.agg [dz,dy 0,dz,dz,dz,dz,dz]])
 b4:h.get 4=some (dA 7 0 [.agg [dy 0,dy 0,dy 0,dy 0,dy 0,dz,dz]])
 bq:h.get (p+1)=some (dA 6 1 [i.t])
 gc:∃l,Gr h cc 1 (gG l)/\l.length=s.cells.length
 gf:∃l,Gr h cf 1 (gG l)/\l.length=s.dX.length
 bc:∀c,dO cc=some c->7<=c/\c<n0
 bf:∀c,dO cf=some c->7<=c/\c<n0/\dO cc≠some c
 gt:Gr h ct 4 es
 l:es.length=s.dE.length
 m:∀j,j<s.dE.length->n0<=lo j/\hi j<=p
 d:∀i j,i<j->j<s.dE.length->hi i<=lo j
 bt:∀c,dO ct=some c->n0<=c/\c<p/\∀j,j<s.dE.length->¬(lo j<=c/\c<hi j)
 o:∀(j:Nat) (e:T) (u:ee),j≠k->es[j]? =some e->s.dE[j]? =some u->FT h (λc=>lo j<=c/\c<hi j) 4 e u.t
 hk:k<s.dE.length
 ek:∃x y,es[k]? =some (.agg [dy x,a,b,dy y])
 tx:At 7 h.size h a b el t
 xb:∀v,(v=a\/v=b\/v∈el)->∀c,dO v=some c->lo k<=c/\(c<hi k\/p+1<c)
section
variable {c:jz}{s:iz}{ch:iR}{i:fI}{S:fk}{k p n0:Nat}{cc cf ct:T}{es:List T}{lo hi:Nat->Nat}{a b:T}{el Mp:List T}{t t':ee}{h h':H}
def SJ.gen(e:SJ c s ch i S k p n0 cc cf ct es lo hi a b el t h)(K:gF 0 h')(U:h.size<=h'.size)(u:∀c,c<h.size->c≠5->c≠p->dO cc≠some c->dO cf≠some c->dO a≠some c->dO b≠some c->h'.get c=h.get c)
 (D:∃r,Gr h' cc 1 (gG r)/\r.length=s.cells.length) (E:∃r,Gr h' cf 1 (gG r)/\r.length=s.dX.length) (L:At 7 h'.size h' a b Mp t') (N:∀w,(w=a\/w=b\/w∈Mp)->∀c,dO w=some c->lo k<=c/\(c<hi k\/p+1<c)):
 SJ c s ch i S k p n0 cc cf ct es lo hi a b Mp t' h':=by
 have V:=e.z;have I:=e.n7;have J:=e.np;have Q:=e.m k e.hk;have v:∀q,q<7->dO cc≠some q/\dO cf≠some q/\dO a≠some q/\dO b≠some q:=λq g=>⟨λf=>by have:=e.bc q f;omega,λf=>by have:=e.bf q f;omega,λf=>by have:=(e.tx.ba q f).1;omega,λf=>by have:=(e.tx.bb q f).1;omega⟩;have n:∀q,q<7->q≠5->h'.get q=h.get q:=λq g F=>u q dq F dq (v q g).1 (v q g).2.1 (v q g).2.2.1 (v q g).2.2.2;have j:∀q,dO a=some q\/dO b=some q->lo k<=q/\(q<hi k\/p+1<q):=λq f=>f.elim (λf=>e.xb a (.inl rfl) q f) λf=>e.xb b (.inr (.inl rfl)) q f;refine⟨K,dq,I,J,(n 0 dq dq).trans e.b0,(n 1 dq dq).trans e.b1,(n 2 dq dq).trans e.b2,(n 3 dq dq).trans e.b3,(n 4 dq dq).trans e.b4,?_,D,E,e.bc,e.bf,e.gt.mono λq f=> ?_,e.l,e.m,e.d,e.bt,λi C M x G A=> ?_,e.hk,e.ek,L,N⟩
 ·refine(u (p+1) dq dq dq (λf=> ?_) (λf=> ?_) (λf=> ?_) λf=> ?_).trans e.bq
  ·have:=e.bc _ f;omega
  ·have:=e.bf _ f;omega
  ·have:=j _ (.inl f);omega
  ·have:=j _ (.inr f);omega
 ·have B:=e.bt q f;have R:=B.2.2 k e.hk;refine u q dq dq dq (λf=> ?_) (λf=> ?_) (λf=> ?_) λf=> ?_
  ·have:=e.bc _ f;omega
  ·have:=e.bf _ f;omega
  ·have:=j _ (.inl f);omega
  ·have:=j _ (.inr f);omega
 ·have y:i<s.dE.length:=(List.getElem?_eq_some_iff.1 A).1;have P:=e.m i y;have O:hi i<=lo k\/hi k<=lo i:=by
   rcases Nat.lt_or_gt_of_ne x with q|q
   ·exact .inl (e.d i k q e.hk)
   ·exact .inr (e.d k i q y)
  refine(e.o i C M x G A).mono λq g=>⟨g,u q dq dq dq (λf=> ?_) (λf=> ?_) (λf=> ?_) λf=> ?_⟩
  ·have:=e.bc _ f;omega
  ·have:=e.bf _ f;omega
  ·have:=j _ (.inl f);omega
  ·have:=j _ (.inr f);omega
def SJ.mono(d:SJ c s ch i S k p n0 cc cf ct es lo hi a b el t h)(y:gF 0 h')(l:h.size<=h'.size)(g:∀c,c<h.size->c≠5->c≠p->h'.get c=h.get c):SJ c s ch i S k p n0 cc cf ct es lo hi a b el t h':=by
 have F:=d.z;have D:=d.n7;have E:=d.np;have C:=d.m k d.hk;obtain⟨l1,q,n⟩:=d.gc;obtain⟨l2,r,o⟩:=d.gf;refine d.gen y l (λc u v w _ _ _ _=>g c u v w) ⟨l1,q.mono λe f=> ?_,n⟩ ⟨l2,r.mono λe f=> ?_,o⟩ (d.tx.J6 (au _) l λB j e f=> ?_) d.xb
 ·have:=d.bc e f;exact g e dq dq dq
 ·have:=d.bf e f;exact g e dq dq dq
 ·have:=d.xb B j e f;have x:e<h.size:=by
   rcases j with rfl|rfl|j
   ·exact(d.tx.ba e f).2.1
   ·exact(d.tx.bb e f).2
   ·obtain⟨_,A⟩:=d.tx.el.left j;exact(A.2 e f).2.1
  exact g e x dq dq 
def SJ.cell(e:SJ c s ch i S k p n0 cc cf ct es lo hi a b el t h){f n q:Nat}{o:Bool}{u:List T}(v:dO cc=some f)(w:h.get f=some ⟨1,n,q,o,false,u⟩)(g:Nat)(j:Int):SJ c s ch i S k p n0 cc cf ct es lo hi a b el t (dT h f ⟨1,n,q+1,o,false,u.set g (dy j)⟩)/\∀d,d=5\/d=p->(dT h f ⟨1,n,q+1,o,false,u.set g (dy j)⟩).get d=h.get d:=by
 have I:=e.n7;have J:=e.np;have F:=e.bc f v;have G:=e.m k e.hk;obtain⟨l1,A,y⟩:=e.gc;obtain⟨l2,B,z⟩:=e.gf;have l:∀d,(dT h f ⟨1,n,q+1,o,false,u.set g (dy j)⟩).get d=if d=f then some ⟨1,n,q+1,o,false,u.set g (dy j)⟩else h.get d:=λd=>dI w _ d;refine⟨e.gen (e.ok.put _ _) (by rw[fJ];exact au _) (λd _ _ _ C _ _ _=>(l d).trans (ao λr=>C (by rw[r];exact v))) ⟨l1.set g j,?_,by simpa using y⟩ ⟨l2,B.mono λd r=>(l d).trans (ao λx=>(e.bf d r).2.2 (by rw[x];exact v)),z⟩ (e.tx.J6 (au _) (by rw[fJ];exact au _) λE D d r=>(l d).trans (ao λx=> ?_)) e.xb,λd hr=>(l d).trans (ao dq)⟩
 ·have:=A.setAt v w g (dy j) ((l f).trans (aq rfl));simpa[gG,bR]using this
 ·have:=e.xb E D d r;omega
def SJ.fut(e:SJ c s ch i S k p n0 cc cf ct es lo hi a b el t h){f n q:Nat}{o:Bool}{u:List T}(v:dO cf=some f)(w:h.get f=some ⟨1,n,q,o,false,u⟩)(g:Nat)(j:Int):SJ c s ch i S k p n0 cc cf ct es lo hi a b el t (dT h f ⟨1,n,q+1,o,false,u.set g (dy j)⟩)/\∀d,d=5\/d=p->(dT h f ⟨1,n,q+1,o,false,u.set g (dy j)⟩).get d=h.get d:=by
 have I:=e.n7;have J:=e.np;have y:=e.bf f v;have G:=e.m k e.hk;obtain⟨l1,B,z⟩:=e.gc;obtain⟨l2,C,A⟩:=e.gf;have l:∀d,(dT h f ⟨1,n,q+1,o,false,u.set g (dy j)⟩).get d=if d=f then some ⟨1,n,q+1,o,false,u.set g (dy j)⟩else h.get d:=λd=>dI w _ d;refine⟨e.gen (e.ok.put _ _) (by rw[fJ];exact au _) (λd _ _ _ _ D _ _=>(l d).trans (ao λr=>D (by rw[r];exact v))) ⟨l1,B.mono λd r=>(l d).trans (ao λx=>y.2.2 (by rw[<-x];exact r)),z⟩ ⟨l2.set g j,?_,by simpa using A⟩ (e.tx.J6 (au _) (by rw[fJ];exact au _) λF E d r=>(l d).trans (ao λx=> ?_)) e.xb,λd hr=>(l d).trans (ao dq)⟩
 ·have:=C.setAt v w g (dy j) ((l f).trans (aq rfl));simpa[gG,bR]using this
 ·have:=e.xb F E d r;omega
end
def u6{d k:Int}(h:mm d=k)(f:k≠0):(k=3->d=6\/d=7)/\(k=4->d=8\/d=9)/\(k=5->d=10)/\(k=22->d=26)/\(k=23->d=27):=by
 have g:6<=d/\d<=28:=by
  unfold mm at h;split at h
  ·exact absurd h.symm f
  ·omega
 have e:d=6\/d=7\/d=8\/d=9\/d=10\/d=11\/d=12\/d=13\/d=14\/d=15\/d=16\/d=17\/d=18\/d=19\/d=20\/d=21\/d=22\/d=23\/d=24\/d=25\/d=26\/d=27\/d=28:=dq;rcases e with rfl|rfl|rfl|rfl|rfl|rfl|rfl|rfl|rfl|rfl|rfl|rfl|rfl|rfl|rfl|rfl|rfl|rfl|rfl|rfl|rfl|rfl|rfl<;>simp[mm,wa]at h<;>omega
def HQ(p:Nat)(d:fN):Prop:=dB d 3 (.ptr 0 0 0 0)/\dB d 4 (.ptr 1 0 0 0)/\dB d 5 (.ptr 2 0 0 0)/\dB d 6 (.ptr 3 0 0 0)/\dB d 7 (.ptr 4 0 0 0)/\dB d 9 (.ptr 5 0 0 0)/\dB d 14 (.ptr p 0 0 0)/\dB d 15 (.ptr (p+1) 0 0 0)
def Ev9(d:ed)(h:H):Prop:=∃e f,h.get 5=some (dA 7 f [ed.t ⟨d.dQ,d.kind,d.obj,e,d.iS,d.mn,d.uF⟩])
def Th9(p:Nat)(a b:T)(e f:Int)(h:H):Prop:=∃d,h.get p=some (dA 4 d [.agg [dy e,a,b,dy f]])
def SJ.K2{c:jz}{s:iz}{ch:iR}{i:fI}{S:fk}{k p n0:Nat}{cc cf ct:T}{es:List T}{lo hi:Nat->Nat}{a b:T}{el:List T}{t:ee}{h:H}(e:SJ c s ch i S k p n0 cc cf ct es lo hi a b el t h){u:iN}(j:h.get 5=some u){l m:Int}(ht:Th9 p a b l m h)(d:ed)(f:Int)(g:Nat):
 SJ c s ch i S k p n0 cc cf ct es lo hi a b el t (dT h 5 (dA 7 g [ed.t ⟨d.dQ,d.kind,d.obj,f,d.iS,d.mn,d.uF⟩]))/\Ev9 d (dT h 5 (dA 7 g [ed.t ⟨d.dQ,d.kind,d.obj,f,d.iS,d.mn,d.uF⟩]))/\Th9 p a b l m (dT h 5 (dA 7 g [ed.t ⟨d.dQ,d.kind,d.obj,f,d.iS,d.mn,d.uF⟩])):=by
 have v:=e.n7;have w:=e.np;obtain⟨r,o⟩:=ht;exact⟨e.mono (e.ok.put _ _) (by rw[fJ];exact au _) λq _ n _=>(dI j _ q).trans (ao n),⟨f,g,(dI j _ 5).trans (aq rfl)⟩,⟨r,(dI j _ p).trans ((ao dq).trans o)⟩⟩
def adl(p:Nat)(ct:T)(m:Int)(h:H):Prop:=∃j d e l g n,h.get p=some (dA 4 n [.agg [dy j,d,e,dy l]])/\d.gJ=true/\d.cells=[d]/\e.gJ=true/\e.cells=[e]/\iv (FT h (λf=>f<h.size/\f≠p/\7<=f/\dO ct≠some f) 3) [dy j,d,e,dy l] (ee.cs g)/\TJ 1000000 g/\(g.dK=m+1\/g.dK=0)
def Gd:m6 Tryz.prog cx 116 (λa:jz×iz×iR=>[a.1.t,a.2.1.t,a.2.2.t]) (λa=>(∀x∈a.1.dE,x.iW.length<=10000001)/\StI a.2.1/\U8 999000 a.2.1) (λa=>Ym a.2.1):=by
 refine jd (tb:=⟨pt [(149,zf.jf),(107,sk)],ht [(163,js iz Uj Nq),(164,js VT M8 By)]⟩) ew ej (iQ 12259964349774246101165194645239424850975965214878597119 [(41,[(1,2)])] Tryz.func116) (λ_=>100) (λa b h=>by simp at h;exact aP (jz.inj h.1) (aP (iz.inj h.2.1) (iR.inj h.2.2))) dt (by simp[Tryz.f116]) ?_;rintro⟨c,s,ch⟩ ⟨fL,I,fE⟩ bk hb;simp only at fL I fE;simp at hb;obtain⟨jC,al,an⟩:=hb;have k1:Yi 1000000 s:=λt ht l hl=>((I.t t ht).tn l hl).1;obtain⟨_,⟨u,hD,rfl,kn,ho⟩,gE⟩:=zf.use (c,s,ch.dQ) ⟨fL,k1⟩;simp only at gE ho;have hn:Ym s (.tuple [iz.t ⟨⟨[],0,[],[]⟩,[],[],[]⟩,ed.t ⟨0,0,0,0,0,[],[]⟩,.bool false]):=⟨_,_,_,rfl,⟨dt,dt⟩,dt⟩;simp[Tryz.f116,jC,al,an,gE];cases hD with
 |false=>
  simp;exact hn
 |true=>
 obtain⟨t,x,i,X⟩:=ho rfl;obtain⟨ps,px⟩:=Hq X.f.v;have kD:MJ s.fF:=⟨by have:=I.l;omega,by have:=I.l;omega,by have:=I.l;omega,λl hl=>by have:=I.r.len I.a l hl;omega,I.a⟩;have gz:rl Tryz.prog cx ⟨pt [(149,zf.jf),(107,sk)],ht [(163,js iz Uj Nq),(164,js VT M8 By)]⟩ 107 [c.eK.t,s.fF.t,dy ch.dQ,dy u.kind,dy u.obj,dy ch.D7]=some (xy (c.eK,s.fF,ch.dQ,u.kind,u.obj,ch.D7)):=
  gU dt DB (c.eK,s.fF,ch.dQ,u.kind,u.obj,ch.D7) ⟨dw,kD⟩
 cases fB:jM c.eK s.fF ch.dQ u.kind u.obj with
 |false=>
  simp[gz,xy,fB];exact hn
 |true=>
 simp[gz,xy,fB];generalize kb:eG c.eK s.fF ch.dQ u.kind u.obj ch.D7=hW at*
 obtain⟨S,U⟩:=hW;simp;have hl:=I.l;generalize bz:H.cons _ _=bH;have hC:gF 0 bH:=by rw[<-bz];exact⟨dt,dt,dt⟩
 have m3:bH.size=7:=by rw[<-bz];rfl
 have mj:bH.get 0=some (dA 7 0 [c.t]):=by rw[<-bz];simp
 have mq:bH.get 1=some (dA 7 0 [s.t]):=by rw[<-bz];simp
 have mx:bH.get 2=some (dA 2 0 [ch.t]):=by rw[<-bz];simp
 have mA:bH.get 3=some (dA 7 0 [.agg [dz,dy 0,dz,dz,dz,dz,dz]]):=by rw[<-bz];simp
 have mC:bH.get 4=some (dA 7 0 [.agg [dy 0,dy 0,dy 0,dy 0,dy 0,dz,dz]]):=by rw[<-bz];simp
 have m0:bH.get 5=some (dA 7 1 [u.t]):=by rw[<-bz];simp
 have m1:bH.get 6=some (dA 4 1 [S.t]):=by rw[<-bz];simp
 clear bz;refine gY N5 dt s ⟨rfl,hC,⟨rfl,hC,dq,dq,dq,λl q=>by have:=I.r.len I.a l q;omega⟩,dq,dq,dq,λR dn=>⟨by have:=(I.t R dn).rl;omega,by have:=(I.t R dn).tl;omega,λl q=>((I.t R dn).tn l q).1⟩⟩ ?_;rintro _ cL ⟨nn,nr,nu,cc,cf,ct,es,lo,hi,n0,rfl,F⟩;have m2:=F.nb.ok.sz;have hR:=F.z;rw[m3]at m2 hR;have a1:=(F.nb.get 1 dq).trans mq;have hV:=(F.nb.get 6 dq).trans m1;have a2:=(F.nb.get 2 dq).trans mx;have a0:=(F.nb.get 0 dq).trans mj;obtain⟨eE,nE,eF,cv,cy,nF⟩:=F.k0;have p1:∀y,(dT cL 1 y).get 1=some y:=λy=>(dI a1 y _).trans (aq rfl);have p6:∀y,(dT cL 1 y).get 6=cL.get 6:=λy=>(dI a1 y _).trans (ao dq);simp[a1,dS,p1,p6,hV];generalize eo:dT (dT cL 1 _) 1 _=B;have pD:B.size=cL.size:=by rw[<-eo];simp
 have la:gF 0 cL:=⟨F.nb.ok.hp,F.nb.ok.low,aw _⟩;have okB:gF 0 B:=by rw[<-eo];exact(la.put _ _).put _ _
 have hH:=(show B.get 1=some (dA 7 2 [.agg [sl (S.dY.map dV.t),dy S.tx,sl (S.done.map T.bool),sl (S.dE.map dG.t),cc,cf,ct]])by rw[<-eo];exact(dI (p1 _) _ _).trans (aq rfl));have cb:∀k,k≠1->B.get k=cL.get k:=λk bN=>by rw[<-eo,dI (p1 _),ao bN,dI a1,ao bN]
 clear eo p1 p6;have hG:=(cb 0 dq).trans a0;have hI:=(cb 2 dq).trans a2;have lB:=(cb 5 dq).trans ((F.nb.get 5 dq).trans m0);have lv:=(cb 3 dq).trans ((F.nb.get 3 dq).trans mA);have lw:=(cb 4 dq).trans ((F.nb.get 4 dq).trans mC);have L:=F.th.mono (h':=B) dq λk bN _=>cb k dq;have bN:=X.n;rw[<-X.f.th]at bN;obtain⟨eV,W⟩:=fj.1 bN;have ca:=X.ht;have fA:∃gI,es[ch.dQ.toNat]? =some gI:=⟨_,az (by rw[L.l];exact W)⟩;obtain⟨gI,eO⟩:=fA;obtain⟨a,b,el,rfl,e3⟩:=L.e _ _ _ eO ca;obtain⟨E,gM,hP,ext,hQ,t1,t2,t3,t4⟩:=L.g.IK (te:=JF) rfl (i:=ch.dQ.toNat) (by rw[L.l];exact W);rw[show es[ch.dQ.toNat]'(by rw[L.l];exact W)=AM t a b by rw[az (by rw[L.l];exact W)]at eO;simpa using eO]at t4;have h3:=okB.low;have m4:∀k,k<7->(k=B.size)=False:=λk bN=>by simp;omega
 have qi:∀k,k<7->(k=B.size+1)=False:=λk bN=>by simp;omega
 have av:=X.hx;have hj:=X.hi;obtain⟨lp,o4,o5,pb⟩:=X.f.t _ _ _ ca av;have lG:=ei lp;simp[hG,hH,hI,t2,t3,t4,AM,h3,ei eV,m4,av,hj,lG];have oV:B.size<B.size+1:=dq;generalize dm:dT ((B.cons _).cons _) (B.size+1) _=a7;have pE:a7.size=B.size+1+1:=by rw[<-dm,fJ];rfl
 have lb:gF 0 a7:=by rw[<-dm];exact((okB.cons _).cons _).put _ _
 have hM:a7.get B.size=some (dA 4 1 [.agg [dy t.pC,a,b,dy t.dK]]):=by rw[<-dm,lY ((okB.cons _).cons _).hp (by show _<B.size+1+1;omega),ao dq,dP,ao (by show¬_=B.size+1;omega),dP,aq rfl]
 have lD:a7.get (B.size+1)=some (dA 6 1 [i.t]):=by rw[<-dm,lY ((okB.cons _).cons _).hp (by show _<B.size+1+1;omega),aq rfl]
 have hL:∀k,k<B.size->a7.get k=B.get k:=λk bN=>by
  rw[<-dm,lY ((okB.cons _).cons _).hp (by show _<B.size+1+1;omega),ao dq,dP,ao (by show¬_=B.size+1;omega),dP,ao dq]
 clear dm;have r5:=(hL 5 dq).trans lB;have ie:∀y,(dT a7 5 y).get 5=some y:=λy=>(dI r5 y _).trans (aq rfl);simp[hM,r5,nJ,ie];have lg:gF 0 (dT a7 5 (dA 7 2 [ed.t ⟨u.dQ,u.kind,u.obj,U,u.iS,u.mn,u.uF⟩])):=lb.put _ _;have eI:∀k,(dT a7 5 (dA 7 2 [ed.t ⟨u.dQ,u.kind,u.obj,U,u.iS,u.mn,u.uF⟩])).get k=_:=λk=>dI r5 _ k;have qe:(dT a7 5 (dA 7 2 [ed.t ⟨u.dQ,u.kind,u.obj,U,u.iS,u.mn,u.uF⟩])).size=a7.size:=fJ ..;generalize dT a7 5 (dA 7 2 [ed.t ⟨u.dQ,u.kind,u.obj,U,u.iS,u.mn,u.uF⟩])=a8 at*
 have od:ch.dQ.toNat<s.dE.length:=W;obtain⟨pa,pn,oW,_,gm,gn,_,gp,_,_,hO,_⟩:=GM X.f X.n;rw[ca]at gm;rw[av]at gn;simp only[ar]at gm gn;subst gm;subst gn;rw[hj]at gp;simp only[ar]at gp;subst gp;have et:∀K:Int,u.kind=K->K≠1->K≠17->K≠0->mm i.op=K:=λK al an a6 b9=>by
  rcases X.k with q|q|q
  ·omega
  ·omega
  ·omega
 have fC:=fB;unfold jM at fC;simp only[aB]at fC;have eS:=fC.1.2;have hg:u.kind=3\/u.kind=4->iT u.obj s.cells.length=true:=λq=>by
  rw[X.f.cl];unfold jD at eS;rcases q with q|q<;>simpa[q]using eS
 have hh:u.kind=22\/u.kind=23->iT u.obj s.dX.length=true:=λq=>by
  rw[X.f.fu];unfold jD at eS;rcases q with q|q<;>simpa[q]using eS
 have hJ:u.kind=3\/u.kind=23\/u.kind=5->0<=i.a/\i.a<x.iE:=λq=>by
  refine hO _ ?_;unfold iH;rcases q with q|q|q
  ·rcases(u6 (et 3 q dq dq dq) dq).1 rfl with k|k<;>simp[k]
  ·simp[(u6 (et 23 q dq dq dq) dq).2.2.2.2 rfl]
  ·simp[(u6 (et 5 q dq dq dq) dq).2.2.1 rfl]
 have hK:u.kind=4\/u.kind=22->0<=i.b/\i.b<x.iE:=λq=>by
  refine hO _ ?_;unfold iH;rcases q with q|q
  ·rcases(u6 (et 4 q dq dq dq) dq).2.1 rfl with k|k<;>simp[k]
  ·simp[(u6 (et 22 q dq dq dq) dq).2.2.2.1 rfl]
 have M:SJ c s ch i S ch.dQ.toNat B.size n0 cc cf ct es lo hi a b el t a8:=by
  have bB:∀k,k<B.size->k≠5->a8.get k=B.get k:=λk al an=>(eI k).trans ((ao an).trans (hL k al));have o0:=L.m _ W;have k8:n0<=B.size:=by have:=F.zn;omega
  refine⟨lg,dq,hR,k8,(bB 0 dq dq).trans hG,(bB 1 dq dq).trans hH,(bB 2 dq dq).trans hI,(bB 3 dq dq).trans lv,(bB 4 dq dq).trans lw,?_,
   ⟨_,F.gc.mono λq x=> ?_,dt⟩,⟨_,F.gf.mono λq x=> ?_,dt⟩,λq x=> ?_,λq x=> ?_,L.g.mono λq x=> ?_,L.l,L.m,L.d,λq x=> ?_,λj u R eP fA dn=> ?_,W,⟨_,_,eO⟩,e3.J6 dq dq λv eU q x=> ?_,λv eU q x=> ?_⟩
  ·exact(eI _).trans ((ao dq).trans lD)
  ·have:=F.bc q x;exact(bB q dq dq).trans (cb q dq)
  ·have:=F.bf q x;exact(bB q dq dq).trans (cb q dq)
  ·have:=F.bc q x;omega
  ·have:=F.bf q x;exact⟨dq,this.2.1,this.2.2⟩
  ·obtain⟨_,_,_,_,g,_⟩:=L.g.box x;have:=(L.c q x).1;exact bB q (H.ez g) dq
  ·obtain⟨_,_,_,_,g,_⟩:=L.g.box x;exact⟨(L.c q x).1,H.ez g,(L.c q x).2⟩
  ·obtain⟨e6,e7,Mp,rfl,lR⟩:=L.e j u R fA dn;have k5:=L.m j (List.getElem?_eq_some_iff.1 dn).1;exact .inr (.inr ⟨_,_,rfl,(lR.mono (h':=a8) (au _) (au _) λq al an=>bB q dq dq).fz _ λq al an=>⟨al,an⟩,rfl⟩)
  all_goals
   have hd:lo ch.dQ.toNat<=q/\q<hi ch.dQ.toNat:=by
    rcases eU with rfl|rfl|eU
    ·have:=e3.ba q x;omega
    ·exact e3.bb q x
    ·obtain⟨_,w⟩:=e3.el.left eU;have:=w.2 q x;exact⟨this.1,this.2.1⟩
  ·exact bB q dq dq
  ·exact⟨hd.1,.inl hd.2⟩
 refine Qa (λbk h=>HQ B.size bk/\(∃n,dB bk 16 (dy n))/\SJ c s ch i S ch.dQ.toNat B.size n0 cc cf ct es lo hi a b el t h/\Ev9 u h/\Th9 B.size a b t.pC t.dK h) ?_ ?_
 ·have Q:=(eI 5).trans (aq rfl);have dk:=(eI B.size).trans ((ao dq).trans hM);have eC:Ev9 u a8:=⟨U,2,Q⟩;have bT:Th9 B.size a b t.pC t.dK a8:=⟨1,dk⟩;cases nv:decide (u.kind=1)with
  |true=>
   simp[dk,HQ];exact⟨M,eC,bT⟩
  |false=>
  cases b7:decide (u.kind=16)with
  |true=>
   simp[b7,dk,HQ];exact⟨M,eC,bT⟩
  |false=>
  cases ce:decide (u.kind=2)with
  |true=>
   simp[b7,ce,dk,HQ];exact⟨M,eC,bT⟩
  |false=>
  cases cp:decide (u.kind=3)with
  |true=>
   obtain⟨l1,bC,bS⟩:=M.gc;have bi:=fj.1 (hg (.inl (by simpa using cp)));obtain⟨p1,P,bl⟩:=(show oS a8 1 cc (gG l1)from .inr bC).idx (te:=FG) rfl rfl (i:=u.obj.toNat) (x:= dy l1[u.obj.toNat]) (by simp[bS,bi.2]) rfl;simp[b7,ce,cp,Q,M.b1,ei bi.1,P,bl,HQ];exact M.K2 Q bT u _ _
  |false=>
  cases de:decide (u.kind=23)with
  |true=>
   obtain⟨l1,bC,bS⟩:=M.gf;have bi:=fj.1 (hh (.inr (by simpa using de)));obtain⟨p1,P,bl⟩:=(show oS a8 1 cf (gG l1)from .inr bC).idx (te:=FG) rfl rfl (i:=u.obj.toNat) (x:= dy l1[u.obj.toNat]) (by simp[bS,bi.2]) rfl;simp[b7,ce,cp,de,Q,M.b1,ei bi.1,P,bl,HQ];exact M.K2 Q bT u _ _
  |false=>
  have fe:oS a8 1 a (gG t.iE):= .inr M.tx.ga;have e2:∀x y:Int,mz (dy x) 0 [dy y]=some (dy y):=λx y=>rfl;cases di:decide (u.kind=4)with
  |true=>
   have gk:=hK (.inl (by simpa using di));have bi:=fj.1 (hg (.inr (by simpa using di)));obtain⟨p1,P,bl⟩:=fe.idx (te:=FG) rfl rfl (i:=i.b.toNat) (x:= dy t.iE[i.b.toNat]) (by simp[show i.b.toNat<t.iE.length by omega]) rfl;obtain⟨aA,aE,t5⟩:=M.K2 Q bT u t.iE[i.b.toNat] 3;have cy:=(dI Q (dA 7 3 [ed.t ⟨u.dQ,u.kind,u.obj,t.iE[i.b.toNat],u.iS,u.mn,u.uF⟩]) 5).trans (aq rfl);simp[b7,ce,cp,de,di,Q,dk,M.bq,ei gk.1,P,bl,HQ];generalize dT a8 5 (dA 7 3 [ed.t ⟨u.dQ,u.kind,u.obj,t.iE[i.b.toNat],u.iS,u.mn,u.uF⟩])=ap at*
   obtain⟨l1,bC,bS⟩:=aA.gc;obtain⟨q,ae,lX,gP,mb,gg,gi,ey,eA⟩:=bC.IK (te:=FG) rfl (i:=u.obj.toNat) (by simpa[bS]using bi.2);simp at eA;obtain⟨gd,ef⟩:=aA.cell gg ey u.obj.toNat t.iE[i.b.toNat];simp[aA.b1,cy,ei bi.1,gi,ey,eA,e2];obtain⟨gw,gy,fY⟩:=aE;obtain⟨dv,c6⟩:=t5;exact⟨gd,⟨gw,gy,(ef 5 (.inl rfl)).trans fY⟩,dv,(ef _ (.inr rfl)).trans c6⟩
  |false=>
  cases eb:decide (u.kind=22)with
  |true=>
   have gk:=hK (.inr (by simpa using eb));have bi:=fj.1 (hh (.inl (by simpa using eb)));obtain⟨p1,P,bl⟩:=fe.idx (te:=FG) rfl rfl (i:=i.b.toNat) (x:= dy t.iE[i.b.toNat]) (by simp[show i.b.toNat<t.iE.length by omega]) rfl;obtain⟨aA,aE,t5⟩:=M.K2 Q bT u t.iE[i.b.toNat] 3;have cy:=(dI Q (dA 7 3 [ed.t ⟨u.dQ,u.kind,u.obj,t.iE[i.b.toNat],u.iS,u.mn,u.uF⟩]) 5).trans (aq rfl);simp[b7,ce,cp,de,di,eb,Q,dk,M.bq,ei gk.1,P,bl,HQ];generalize dT a8 5 (dA 7 3 [ed.t ⟨u.dQ,u.kind,u.obj,t.iE[i.b.toNat],u.iS,u.mn,u.uF⟩])=ap at*
   obtain⟨l1,bC,bS⟩:=aA.gf;obtain⟨q,ae,lX,gP,mb,gg,gi,ey,eA⟩:=bC.IK (te:=FG) rfl (i:=u.obj.toNat) (by simpa[bS]using bi.2);simp at eA;obtain⟨gd,ef⟩:=aA.fut gg ey u.obj.toNat t.iE[i.b.toNat];simp[aA.b1,cy,ei bi.1,gi,ey,eA,e2];obtain⟨gw,gy,fY⟩:=aE;obtain⟨dv,c6⟩:=t5;exact⟨gd,⟨gw,gy,(ef 5 (.inl rfl)).trans fY⟩,dv,(ef _ (.inr rfl)).trans c6⟩
  |false=>
  cases e9:decide (u.kind=5)with
  |false=>
   simp[b7,ce,cp,de,di,eb,e9,HQ];exact⟨M,eC,bT⟩
  |true=>
   have e1:=hJ (.inr (.inr (by simpa using e9)));obtain⟨p1,P,bl⟩:=fe.idx (te:=FG) rfl rfl (i:=i.a.toNat) (x:= dy t.iE[i.a.toNat]) (by simp[show i.a.toNat<t.iE.length by omega]) rfl;obtain⟨aA,aE,t5⟩:=M.K2 Q bT u 1 3;have cy:=(dI Q (dA 7 3 [ed.t ⟨u.dQ,u.kind,u.obj,1,u.iS,u.mn,u.uF⟩]) 5).trans (aq rfl);simp[b7,ce,cp,de,di,eb,e9,Q,HQ];generalize dT a8 5 (dA 7 3 [ed.t ⟨u.dQ,u.kind,u.obj,1,u.iS,u.mn,u.uF⟩])=ap at*
   obtain⟨p1,P,bl⟩:=(show oS ap 1 a (gG t.iE)from .inr aA.tx.ga).idx (te:=FG) rfl rfl (i:=i.a.toNat) (x:= dy t.iE[i.a.toNat]) (by simp[show i.a.toNat<t.iE.length by omega]) rfl;obtain⟨dv,c6⟩:=t5;obtain⟨hs,lW,t6⟩:=aA.K2 cy ⟨dv,c6⟩ u 0 4;have hZ:=hs.bq;simp[c6,aA.bq,ei e1.1,P,bl];refine dW (λq=> ?_) (λq=> ?_)
   ·simp[cy,hZ];exact⟨hs,lW,t6⟩
   ·simp;exact⟨aA,aE,dv,c6⟩
 ·rintro bk h ⟨⟨a6,b9,ap,bn,bs,bu,aX,b8⟩,⟨c7,eM⟩,A,⟨v,aE,aN⟩,b6,ae⟩;simp[bu,aN];have o3:=A.ok;refine kS (λbk h=>HQ B.size bk/\(∃n,dB bk 16 (dy n))/\∃Mp t',t'.pC=t.pC/\t'.dK=t.dK/\TJ 1000000 t'/\SJ c s ch i S ch.dQ.toNat B.size n0 cc cf ct es lo hi a b Mp t' h/\Ev9 u h/\Th9 B.size a b t.pC t.dK h) (λG=> ?_) (λG=> ?_) ?_
  ·have e1:=hJ (by simpa[or_assoc]using(by simpa using G:u.kind=3\/u.kind=23).elim .inl λq=> .inr (.inl q));have oi:el.length=t.jR.length:=A.tx.el.length;have jZ:i.a.toNat<t.iE.length:=dq;have j0:i.a.toNat<el.length:=dq;obtain⟨Y,h8,l7,h9,mi,er,j5,fs,hc⟩:=A.tx.ga.IK (te:=FG) rfl (i:=i.a.toNat) (by simpa using jZ);simp at hc;have e2:∀x y:Int,mz (dy x) 0 [dy y]=some (dy y):=λx y=>rfl;have k7:=A.n7;have o2:=A.np;have oT:=A.z;have hf:=A.tx.ba Y er;have oB:=A.xb a (.inl rfl) Y er;have oj:=A.m _ A.hk;simp[bu,aX,b8,ae,aN,A.bq,ei e1.1,j5,fs,hc,e2];generalize k4:iN.mk 1 h8 (l7+1) h9 false (mi.set i.a.toNat (dy v))=c9 at*
   have ea:∀w,(dT h Y c9).get w=if w=Y then some c9 else h.get w:=λw=>dI fs c9 w;have k9:gF 0 (dT h Y c9):=A.ok.put _ _;have pu:(dT h Y c9).size=h.size:=fJ ..;have h4:=(ea B.size).trans ((ao dq).trans ae);have h5:=(ea (B.size+1)).trans ((ao dq).trans A.bq);have nA:=(ea 5).trans ((ao dq).trans aN);generalize n9:dT h Y c9=J at*
   have eL:Gr J b 1 el:=A.tx.gb.mono λw hr=>(ea w).trans (ao λx=>hf.2.2 (by rw[<-x];exact hr));obtain⟨Z,ec,e4,eD,e5,c1,kd,eN,fv⟩:=(eL.mono (h':=J.cons (dA 1 0 [dy t.dK])) λw hr=>by rw[dP,ao (by have:=(A.tx.bb w hr).2;omega)]).IK (te:=p8) rfl (i:=i.a.toNat) j0;obtain⟨nw,kk,lC⟩:=A.tx.el.get (az (show i.a.toNat<t.jR.length by omega));have lE:=Ia (x:= .arr J.size 0 0 1 false) lC.1.na;replace fv:=fv.trans ((az _).symm.trans kk);have kg:b= .arr Z ec 0 el.length false:=by
    obtain⟨_,_,_,_,q,u⟩:=(eL.mono (h':=J.cons (dA 1 0 [dy t.dK])) λw hr=>by rw[dP,ao (by have:=(A.tx.bb w hr).2;omega)]).box c1;rw[eN]at q;simp at q;rw[u,q.1]
   simp[aX,b8,eM,h4,h5,ei e1.1,kd,eN,fv,lE];have n5:=A.tx.bb Z c1;have oC:=A.xb b (.inr (.inl rfl)) Z c1;have j6:Y≠Z:=λq=>hf.2.2 (by rw[q];exact c1);have lc:gF 0 (dT (J.cons (dA 1 0 [dy t.dK])) Z ⟨1,ec,e4+1,eD,false,e5.set i.a.toNat (.arr J.size 0 0 1 false)⟩):=(k9.cons _).put _ _;have qc:(dT (J.cons (dA 1 0 [dy t.dK])) Z ⟨1,ec,e4+1,eD,false,e5.set i.a.toNat (.arr J.size 0 0 1 false)⟩).size=h.size+1:=by rw[fJ];show J.size+1=_;omega
   have eB:∀w,(dT (J.cons (dA 1 0 [dy t.dK])) Z ⟨1,ec,e4+1,eD,false,e5.set i.a.toNat (.arr J.size 0 0 1 false)⟩).get w=if w=Z then some ⟨1,ec,e4+1,eD,false,e5.set i.a.toNat (.arr J.size 0 0 1 false)⟩else if w=J.size then some (dA 1 0 [dy t.dK])else if w=Y then some c9 else h.get w:=λw=>(dI eN _ w).trans (by rw[dP,ea]);generalize dT (J.cons _) Z _=fm at*
   have ii:=(eL.mono (h':=J.cons (dA 1 0 [dy t.dK])) λw hr=>by rw[dP,ao (by have:=(A.tx.bb w hr).2;omega)]).setAt c1 eN i.a.toNat (.arr J.size 0 0 1 false) (h':=fm) ((eB Z).trans (aq rfl));have ih:=A.tx.ga.setAt er fs i.a.toNat (dy v) (h':=fm) ((eB Y).trans ((ao j6).trans ((ao dq).trans ((aq rfl).trans (by rw[k4])))));have dd:∀w,w<h.size->w≠Y->w≠Z->fm.get w=h.get w:=λw al an a6=>(eB w).trans ((ao a6).trans ((ao dq).trans (ao an)));have h6:∀w,dO a=some w->w=Y:=λw hr=>by rw[er]at hr;simpa using hr.symm
   have h7:∀w,dO b=some w->w=Z:=λw hr=>by rw[c1]at hr;simpa using hr.symm
   have n8:=fE t (ax ca);have fS:=I.t t (ax ca);have e0:∀w,dO a≠some w->dO b≠some w->w≠Y/\w≠Z:=λw al an=>⟨λx=>al (by rw[x];exact er),λx=>an (by rw[x];exact c1)⟩;refine⟨by simp[HQ,a6,b9,ap,bn,bs,bu,aX,b8],el.set i.a.toNat (.arr J.size 0 0 1 false),⟨t.pC,t.iE.set i.a.toNat v,t.jR.set i.a.toNat [t.dK],t.dK⟩,rfl,rfl,⟨by simpa using fS.rl,by simpa using fS.tl,λl hl=> ?_⟩,
    A.gen lc dq (λw al an a6 _ _ bn bs=>dd w al (e0 w bn bs).1 (e0 w bn bs).2) ?_ ?_ ⟨by simpa[gG,bR]using ih,ii,A.tx.el.set i.a.toNat ⟨.inr ?_,λw hr=> ?_⟩ λu l q=>⟨q.1.mono λw hr=> ?_,λw hr=> ?_⟩,λw hr=> ?_,λw hr=> ?_⟩ λU hw w hr=> ?_,⟨v,aE,(dd 5 dq dq dq).trans aN⟩,b6,(dd _ dq dq dq).trans ae⟩
   ·rcases bV hl with q|rfl
    ·exact fS.tn l q
    ·exact⟨dt,λx av=>by simp at av;subst av;omega⟩
   ·obtain⟨l1,eE,P⟩:=A.gc;exact⟨l1,eE.mono λw hr=>by have:=A.bc w hr;exact dd w dq dq dq,P⟩
   ·obtain⟨l1,eE,P⟩:=A.gf;exact⟨l1,eE.mono λw hr=>by have:=A.bf w hr;exact dd w dq dq dq,P⟩
   ·have:=Gr.new ((eB J.size).trans ((ao dq).trans (aq rfl)));simpa using this
   ·simp at hr;subst hr;exact⟨dq,dq,λq=>by have:=h6 _ q;omega,λq=>by have:=h7 _ q;omega⟩
   ·obtain⟨W,hv,eW,eX⟩:=q.2 w hr;exact dd w hv (e0 w eW eX).1 (e0 w eW eX).2
   ·obtain⟨W,hv,eW,eX⟩:=q.2 w hr;exact⟨W,dq,eW,eX⟩
   ·have:=A.tx.ba w hr;exact⟨this.1,dq,this.2.2⟩
   ·have:=A.tx.bb w hr;exact⟨this.1,dq⟩
   ·rcases hw with rfl|rfl|hw
    ·exact A.xb _ (.inl rfl) w hr
    ·exact A.xb _ (.inr (.inl rfl)) w hr
    ·rcases bV hw with q|rfl
     ·exact A.xb U (.inr (.inr q)) w hr
     ·simp at hr;subst hr;omega
  ·simp[HQ,a6,b9,ap,bn,bs,bu,aX,b8,eM];exact⟨el,t,rfl,rfl,I.t _ (ax ca),A,⟨v,aE,aN⟩,b6,ae⟩
  rintro bk h ⟨⟨a6,b9,ap,bn,bs,bu,aX,b8⟩,⟨c7,eM⟩,Mp,t',ov,oA,ds,A,⟨v,aE,aN⟩,b6,ae⟩;have eh:∀y,(dT h B.size y).get B.size=some y:=λy=>(dI ae y _).trans (aq rfl);have gV:∀y,∀q,q<7->(dT h B.size y).get q=h.get q:=λy q G=>(dI ae y _).trans (ao dq);have gS:∀y C,(dT (dT h B.size y) B.size C).get B.size=some C:=λy C=>(dI (eh y) C _).trans (aq rfl);have fl:∀y C,∀q,q<7->(dT (dT h B.size y) B.size C).get q=h.get q:=λy C q G=>(dI (eh y) C _).trans ((ao dq).trans (gV y q G));simp[bu,aX,eM,aN,ae,nJ,dS,eh,fl];have kg:=fE t (ax ca);have k3:IntKind.i64.wrap (t.dK+1)=t.dK+1:=by rw[<-jn,ju dq dq]
  rw[k3];have N3:gF 0 (dT (dT h B.size (dA 4 (b6+1) [.agg [dy t.pC,a,b,dy (t.dK+1)]])) B.size ⟨4,0,b6+1+1,true,false,[.agg [dy c7,a,b,dy (t.dK+1)]]⟩):=(A.ok.put _ _).put _ _;have D:=A.mono N3 (by rw[fJ,fJ];exact au _) λq _ _ G=>by rw[dI (eh _),ao G,dI ae,ao G]
  have gB:=(fl (dA 4 (b6+1) [.agg [dy t.pC,a,b,dy (t.dK+1)]]) ⟨4,0,b6+1+1,true,false,[.agg [dy c7,a,b,dy (t.dK+1)]]⟩ 5 dq).trans aN;have gj:=gS (dA 4 (b6+1) [.agg [dy t.pC,a,b,dy (t.dK+1)]]) ⟨4,0,b6+1+1,true,false,[.agg [dy c7,a,b,dy (t.dK+1)]]⟩;generalize dT (dT h B.size _) B.size _=gZ at*
  clear eh gV gS fl A ae aN;refine kS (λbk h=>HQ B.size bk/\SJ c s ch i S ch.dQ.toNat B.size n0 cc cf ct es lo hi a b Mp t' h/\Ev9 u h/\adl B.size ct t.dK h) (λG=> ?_) (λG=> ?_) ?_
  ·have k2:=ax av;simp[a6,ap,aX,D.b0,D.b2,ei eV,av,gj];refine gY NF dt ⟨x,⟨c7,t'.iE,t'.jR,t.dK+1⟩,a,b,Mp,7,gZ.size,1000000⟩ ⟨rfl,D.tx.same rfl rfl,au _,N3,⟨ds.rl,ds.tl,ds.tn⟩,au _,fL x k2⟩ ?_;rintro _ hE ⟨R,hD,rfl,gv,hN,qb,fb,hB⟩;have qa:=D.z;have hF:=(fb B.size dq).trans gj;have fi:∀y,∀q,(dT hE B.size y).get q=if q=B.size then some y else hE.get q:=λy q=>dI hF y q;simp[HQ,a6,b9,ap,bn,bs,bu,aX,b8,hF,dS];have hS:=D.mono (h':=hE) hB dq λq G _ _=>fb q G;refine⟨hS.mono (hB.put _ _) (by rw[fJ];exact au _) λq _ _ G=>(fi _ q).trans (ao G),⟨v,aE,(fi _ 5).trans ((ao dq).trans ((fb 5 dq).trans gB))⟩,R.pC,sl (gG R.iE),sl (R.jR.map Yj),R.dK,R,_,(fi _ _).trans (aq rfl),dt,dt,dt,dt,?_,gv,hN⟩;exact .cons (fW ..) (.cons (oz _ _ _ λx av=>(GL _ x av).1) (.cons (oz _ _ _ λx av=>by obtain⟨l,_,rfl⟩:=List.mem_map.1 av;simp[Yj]) (.cons (fW ..) .nil)))
  ·simp[HQ,a6,b9,ap,bn,bs,bu,aX,b8];refine⟨D,⟨v,aE,gB⟩,_,_,_,_,⟨c7,t'.iE,t'.jR,t.dK+1⟩,_,gj,D.tx.ga.gJ,D.tx.ga.cells,D.tx.gb.gJ,D.tx.gb.cells,(D.tx.same (s':=⟨c7,t'.iE,t'.jR,t.dK+1⟩) rfl rfl).fzB _ λU hw q x=> ?_,⟨ds.rl,ds.tl,ds.tn⟩,.inl rfl⟩;have pd:=D.xb U hw q x;have pe:=D.m _ D.hk;have pm:=D.n7;have l9:q<gZ.size:=by
    rcases hw with rfl|rfl|hw
    ·exact(D.tx.ba q x).2.1
    ·exact(D.tx.bb q x).2
    ·obtain⟨_,w⟩:=D.tx.el.left hw;exact(w.2 q x).2.1
   exact⟨l9,dq,dq,λy=>by have:=D.bt q y;have:=this.2.2 _ D.hk;omega⟩
  rintro bk h ⟨⟨a6,b9,ap,bn,bs,bu,aX,b8⟩,A,⟨v,aE,aN⟩,hy,e6,e7,hA,R,pc,lu,nX,n1,eL,n2,lT,gv,hN⟩;obtain⟨E,gM,hP,ext,hQ,t1,t2,t3,t4⟩:=A.gt.IK (te:=JF) rfl (i:=ch.dQ.toNat) (by rw[A.l];exact W);obtain⟨gP,nB,kp⟩:=A.ek;replace t4:=t4.trans ((az _).symm.trans kp);have nk:=A.bt E t1;obtain⟨l1,bC,bS⟩:=A.gc;obtain⟨l2,jj,kB⟩:=A.gf;generalize hq:iN.mk 4 gM (hP+1) ext false (hQ.set ch.dQ.toNat (.agg [dy hy,e6,e7,dy hA]))=O;have gQ:∀q,(dT h E O).get q=if q=E then some O else h.get q:=λq=>dI t3 O q;have eH:∀q,q<7->(dT h E O).get q=h.get q:=λq G=>(gQ q).trans (ao dq);have hX:=(eH 1 dq).trans A.b1;have e8:=(eH 3 dq).trans A.b3;have m5:=(eH 4 dq).trans A.b4;have hY:=(eH 5 dq).trans aN;have eF:∀y q,(dT (dT h E O) 3 y).get q=if q=3 then some y else if q=E then some O else h.get q:=λy q=>(dI e8 y q).trans (by rw[gQ]);have cv:∀y C q,(dT (dT (dT h E O) 3 y) 4 C).get q=if q=4 then some C else if q=3 then some y else if q=E then some O else h.get q:=λy C q=>(dI ((eF y 4).trans ((ao dq).trans ((ao dq).trans A.b4))) C q).trans (by rw[eF]);have o1:(3=E)=False:=du;have k6:(4=E)=False:=du;have sv:∀y,eJ (dT h E O) (dT (dT h E O) 3 y) 5=true:=λy=>mB e8 dq y;have ia:∀y C,TI.fz (dT (dT (dT h E O) 3 y) 4 C) cc=some (sl (gG l1)):=λy C=>(bC.mono (h':=dT (dT (dT h E O) 3 y) 4 C) λq x=>by
   have:=A.bc q x;rw[cv,ao dq,ao dq,ao dq]).fz dt
  have ib:∀y C,TI.fz (dT (dT (dT h E O) 3 y) 4 C) cf=some (sl (gG l2)):=λy C=>(jj.mono (h':=dT (dT (dT h E O) 3 y) 4 C) λq x=>by
   have:=A.bf q x;rw[cv,ao dq,ao dq,ao dq]).fz dt
  have ic:∀y C,TI.fz (dT (dT (dT h E O) 3 y) 4 C) ct=some (sl ((s.dE.set ch.dQ.toNat R).map ee.t)):=λy C=>by
   refine(A.gt.setAt t1 t3 ch.dQ.toNat (.agg [dy hy,e6,e7,dy hA]) (h':=dT (dT (dT h E O) 3 y) 4 C) (by rw[cv,ao dq,ao dq,aq rfl,hq])).IW (V:=λ_=>True) (d:=4) dq (A4 (by simp[A.l]) λj x U eu hw=> ?_);rw[aQ]at hw;obtain⟨lS,c4,rfl⟩:=Option.map_eq_some_iff.1 hw;by_cases eP:j=ch.dQ.toNat
   ·subst eP;rw[dj (by rw[A.l];exact W)]at eu;rw[dj W]at c4;simp at eu c4;subst eu;subst c4;exact .inr (.inr ⟨_,_,rfl,lT.imp λ_ _ k=>k.mono λq G=>⟨trivial,by rw[cv,ao dq,ao dq,ao (λx=>G.2.2.2 (by rw[x];exact t1))]⟩,rfl⟩)
   ·rw[cC (λx=>eP x.symm)]at eu c4;have k5:=A.m j (List.getElem?_eq_some_iff.1 c4).1;have k7:=A.n7;refine(A.o j x lS eP eu c4).mono λq G=>⟨trivial,?_⟩;rw[cv,ao dq,ao dq,ao (λx=>(A.bt E t1).2.2 j (List.getElem?_eq_some_iff.1 c4).1 (by rw[<-x];exact G))]
  simp[b9,ap,bn,bs,bu,aX,A.b1,A.b2,ei eV,lu,t2,t3,t4,dS,hq,hX,e8,hY,eF,cv,k6,A.b4,sv,ia,ib,ic,A.ok.hp];have fo:S=(eG c.eK s.fF ch.dQ u.kind u.obj ch.D7).1:=by rw[kb]
  have eR:=xz c.eK s.fF ch.dQ u.kind u.obj ch.D7;rw[<-fo]at eR;refine⟨⟨S,l1,l2,s.dE.set ch.dQ.toNat R⟩,⟨u.dQ,u.kind,u.obj,v,u.iS,u.mn,u.uF⟩,true,by simp[iz.t,iz.cs,bR],kn,λ_=>⟨⟨⟨by rw[eR.1];omega,by rw[eR.2.1];omega,by rw[eR.2.2];omega,by rw[bS];omega,by rw[kB];omega,du⟩,?_,?_,λU hw=> ?_⟩,λN ha U hw=> ?_⟩⟩
  ·rw[fo];refine CC I.r _ ⟨eV,?_⟩ _ _ _;have:=X.f.th;omega
  ·rw[fo];exact xC I.a _ _ _ _ _
  ·rcases bV hw with q|rfl
   ·exact I.t U q
   ·exact gv
  ·rcases bV hw with q|rfl
   ·have:=ha U q;omega
   ·have:=ha t (ax ca);omega
end
end Go.Proofs.YtmaeadedikngoaaGreatDoor
