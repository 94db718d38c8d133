/- Texts W09e to W09e. -/
import Derived.Test.YtmaeadedikngoaaGreatDoorA30
set_option linter.all false
set_option maxRecDepth 100000
set_option maxHeartbeats 8000000
namespace Go.Proofs.YtmaeadedikngoaaGreatDoor
noncomputable section
open Go Go.TI
attribute [-simp] List.map_take List.map_drop List.map_append fH fh ej Bool.not_or Bool.not_and
attribute [simp] fG fj
attribute [-simp] size_cons
def QV{j:Out}{e f:iO}(o:W j e)(q:∀d h,e.n d h->f.n d h)(v:∀i d h,e.x i d h->f.x i d h)(u:∀d h,e.r d h->f.r d h):W j f:=by
 obtain⟨l,d,h,m,g⟩:=o;refine⟨l,d,h,m,?_⟩;cases l with
 |normal=>exact q d h g
 |exit i=>exact v i d h g
 |ret=>exact u d h g
def Rf{cx:Ctx}{cf:iX}{z y id:Nat}{u:DL}{t:Bool}{a b:Code}{m:Env->H->Out}{d:Env}{h:H}{f:iO}(l:fX->H->Prop)(v:CK (some (.bool t)) cx cf z y u a b d h (Fx m (rR id (xO (λd h=>d.tmps= .nil/\l d.vars h) f))))
 (B:∀o h,l o h->f.n ⟨o,.nil⟩ h):CK (some (.bool t)) cx cf z y u a b d h (Fx m (rR id f)):=by
 have q:∀d h,(d.tmps= .nil/\l d.vars h)->f.n d h:=λd h ⟨e,w⟩=>by obtain⟨o,C⟩:=d;simp only at e w;subst e;exact B o h w
 have A:∀g,W g (rR id (xO (λd h=>d.tmps= .nil/\l d.vars h) f))->W g (rR id f):=λg r=>QV r q (λi d h e=>by
  rw[yJ]at e|-;split
  ·rename_i j;rw[aq j]at e;exact q d h e
  ·rename_i j;rw[ao j]at e;exact e) λ_ _ e=>e
 have x:∀g,W g (Fx m (rR id (xO (λd h=>d.tmps= .nil/\l d.vars h) f)))->W g (Fx m (rR id f)):=λg r=>QV r (λd h e=>A _ e) (λi d h e=>by
  rw[V1,yJ]at e|-;split
  ·rename_i j;rw[aq j]at e;exact q d h e
  ·rename_i j;rw[ao j]at e;exact e) λ_ _ e=>e
 cases t
 ·exact x _ v
 ·exact x _ v
structure StI(s:iL):Prop where
 l:s.fO.ew.length<=1000/\s.fO.done.length<=1000/\s.fO.dM.length<=1000/\s.cells.length<=1000/\s.ei.length<=1000/\s.dM.length<=1000
 r:IA 4 s.fO
 a:s.fO.EY
 t:∀t∈s.dM,UQ 1000000 t
def Wl(d:Nat)(s:iL):Prop:=∀t∈s.dM,0<=t.dS/\t.dS<=d
def ZK(s:iL)(j:T):Prop:=∃(d:iL) (f:eK) (g:Bool),j= .tuple [d.t,f.t,.bool g]/\evN 1000000 f/\(g=true->StI d/\∀e:Nat,Wl e s->Wl (e+1) d)
def AS.K1{lo l hi j:Nat}{h h':H}{a b:T}{es:List T}{s:ez}(t:AS lo hi h a b es s)(hl:l<=lo)(r:hi<=j)(f:∀e,(e=a\/e=b\/e∈es)->∀c,dU e=some c->h'.get c=h.get c):AS l j h' a b es s:=
 ⟨t.ga.mono λc d=>f a (.inl rfl) c d,t.gb.mono λc d=>f b (.inr (.inl rfl)) c d,t.el.imp_mem λm n u d=>⟨d.1.mono λc g=>f m (.inr (.inr n)) c g,λc g=>by
   obtain⟨v,w,o,q⟩:=d.2 c g;exact⟨dB,dB,o,q⟩⟩,λc d=>by have:=t.ba c d;exact⟨dB,dB,this.2.2⟩,λc d=>by have:=t.bb c d;exact⟨dB,dB⟩⟩
def AS.fzB{lo hi:Nat}{h:H}{a b:T}{es:List T}{s:ez}(t:AS lo hi h a b es s)(o:Nat->Prop)(n:∀m,(m=a\/m=b\/m∈es)->∀c,dU m=some c->o c):iG (FT h o 3) [dG s.pC,a,b,dG s.dS] s.cs:=
 .cons (f9 ..) (.cons ((show oX h 1 a (gD s.iS)from .inr t.ga).ft (d:=1) (HQ _) λc g=>n a (.inl rfl) c g)
  (.cons (t.gb.ft (λc g=>n b (.inr (.inl rfl)) c g) ((t.el.imp_mem (R':=λe j=>oX h 1 e (gD j)/\e∈es) λe q j l=>⟨l.1,q⟩).VT (f:=λj=>sl (gD j)) λe j l=>l.1.ft (d:=0) (HQ _) λc g=>n e (.inr (.inr l.2)) c g)) (.cons (f9 ..) .nil)))
def Bx{g j:Type}{l:g->j->Prop}:∀{e:List g} {f:List j},e.length=f.length->(∀(d:Nat) (a:g) (b:j),e[d]? =some a->f[d]? =some b->l a b)->iG l e f
 | [],[],_,_=> .nil
 |a::e,b::f,hl,h=> .cons (h 0 a b rfl rfl) (Bx (by simpa using hl) λd o q m n=>h (d+1) o q (by simpa using m) (by simpa using n))
 | [],_::_,hl,_=>by simp at hl
 |_::_,[],hl,_=>by simp at hl
structure SJ(c:jO)(s:iL)(ch:jf)(i:fU)(S:fK)(k p n0:Nat)(cc cf ct:T)(es:List T)(lo hi:Nat->Nat)(a b:T)(el:List T)(t:ez)(h:H):Prop where
 ok:ij 0 h
 z:p+1+1<=h.size
 n7:7<=n0
 np:n0<=p
 b0:h.get 0=some (dI 7 0 [c.t])
 b1:h.get 1=some (dI 7 2 [.agg [sl (S.ew.map eg.t),dG S.tx,sl (S.done.map T.bool),sl (S.dM.map dP.t),cc,cf,ct]])
 b2:h.get 2=some (dI 2 0 [ch.t])
 b3:h.get 3=some (dI 7 0 [.agg [dH,dG 0,dH,dH,dH,dH,dH]])
 b4:h.get 4=some (dI 7 0 [.agg [dG 0,dG 0,dG 0,dG 0,dG 0,dH,dH]])
 bq:h.get (p+1)=some (dI 6 1 [i.t])
 gc:∃l,Gr h cc 1 (gD l)/\l.length=s.cells.length
 gf:∃l,Gr h cf 1 (gD l)/\l.length=s.ei.length
 bc:∀c,dU cc=some c->7<=c/\c<n0
 bf:∀c,dU cf=some c->7<=c/\c<n0/\dU cc≠some c
 gt:Gr h ct 4 es
 l:es.length=s.dM.length
 m:∀j,j<s.dM.length->n0<=lo j/\hi j<=p
 d:∀i j,i<j->j<s.dM.length->hi i<=lo j
 bt:∀c,dU ct=some c->n0<=c/\c<p/\∀j,j<s.dM.length->¬(lo j<=c/\c<hi j)
 o:∀(j:Nat) (e:T) (u:ez),j≠k->es[j]? =some e->s.dM[j]? =some u->FT h (λc=>lo j<=c/\c<hi j) 4 e u.t
 hk:k<s.dM.length
 ek:∃x y,es[k]? =some (.agg [dG x,a,b,dG y])
 tx:AS 7 h.size h a b el t
 xb:∀v,(v=a\/v=b\/v∈el)->∀c,dU v=some c->lo k<=c/\(c<hi k\/p+1<c)
section
variable {c:jO}{s:iL}{ch:jf}{i:fU}{S:fK}{k p n0:Nat}{cc cf ct:T}{es:List T}{lo hi:Nat->Nat}{a b:T}{el Nq:List T}{t t':ez}{h h':H}
def SJ.gen(e:SJ c s ch i S k p n0 cc cf ct es lo hi a b el t h)(K:ij 0 h')(U:h.size<=h'.size)(u:∀c,c<h.size->c≠5->c≠p->dU cc≠some c->dU cf≠some c->dU a≠some c->dU b≠some c->h'.get c=h.get c)
 (D:∃r,Gr h' cc 1 (gD r)/\r.length=s.cells.length) (E:∃r,Gr h' cf 1 (gD r)/\r.length=s.ei.length) (L:AS 7 h'.size h' a b Nq t') (N:∀w,(w=a\/w=b\/w∈Nq)->∀c,dU w=some c->lo k<=c/\(c<hi k\/p+1<c)):
 SJ c s ch i S k p n0 cc cf ct es lo hi a b Nq t' h':=by
 have V:=e.z;have I:=e.n7;have J:=e.np;have Q:=e.m k e.hk;have v:∀q,q<7->dU cc≠some q/\dU cf≠some q/\dU a≠some q/\dU b≠some q:=λq g=>⟨λf=>by have:=e.bc q f;omega,λf=>by have:=e.bf q f;omega,λf=>by have:=(e.tx.ba q f).1;omega,λf=>by have:=(e.tx.bb q f).1;omega⟩;have n:∀q,q<7->q≠5->h'.get q=h.get q:=λq g F=>u q dB F dB (v q g).1 (v q g).2.1 (v q g).2.2.1 (v q g).2.2.2;have j:∀q,dU a=some q\/dU b=some q->lo k<=q/\(q<hi k\/p+1<q):=λq f=>f.elim (λf=>e.xb a (.inl rfl) q f) λf=>e.xb b (.inr (.inl rfl)) q f;refine⟨K,dB,I,J,(n 0 dB dB).trans e.b0,(n 1 dB dB).trans e.b1,(n 2 dB dB).trans e.b2,(n 3 dB dB).trans e.b3,(n 4 dB dB).trans e.b4,?_,D,E,e.bc,e.bf,e.gt.mono λq f=> ?_,e.l,e.m,e.d,e.bt,λi C M x G A=> ?_,e.hk,e.ek,L,N⟩
 ·refine(u (p+1) dB dB dB (λf=> ?_) (λf=> ?_) (λf=> ?_) λf=> ?_).trans e.bq
  ·have:=e.bc _ f;omega
  ·have:=e.bf _ f;omega
  ·have:=j _ (.inl f);omega
  ·have:=j _ (.inr f);omega
 ·have B:=e.bt q f;have R:=B.2.2 k e.hk;refine u q dB dB dB (λf=> ?_) (λf=> ?_) (λf=> ?_) λf=> ?_
  ·have:=e.bc _ f;omega
  ·have:=e.bf _ f;omega
  ·have:=j _ (.inl f);omega
  ·have:=j _ (.inr f);omega
 ·have y:i<s.dM.length:=(List.getElem?_eq_some_iff.1 A).1;have P:=e.m i y;have O:hi i<=lo k\/hi k<=lo i:=by
   rcases Nat.lt_or_gt_of_ne x with q|q
   ·exact .inl (e.d i k q e.hk)
   ·exact .inr (e.d k i q y)
  refine(e.o i C M x G A).mono λq g=>⟨g,u q dB dB dB (λf=> ?_) (λf=> ?_) (λf=> ?_) λf=> ?_⟩
  ·have:=e.bc _ f;omega
  ·have:=e.bf _ f;omega
  ·have:=j _ (.inl f);omega
  ·have:=j _ (.inr f);omega
def SJ.mono(d:SJ c s ch i S k p n0 cc cf ct es lo hi a b el t h)(y:ij 0 h')(l:h.size<=h'.size)(g:∀c,c<h.size->c≠5->c≠p->h'.get c=h.get c):SJ c s ch i S k p n0 cc cf ct es lo hi a b el t h':=by
 have F:=d.z;have D:=d.n7;have E:=d.np;have C:=d.m k d.hk;obtain⟨l1,q,n⟩:=d.gc;obtain⟨l2,r,o⟩:=d.gf;refine d.gen y l (λc u v w _ _ _ _=>g c u v w) ⟨l1,q.mono λe f=> ?_,n⟩ ⟨l2,r.mono λe f=> ?_,o⟩ (d.tx.K1 (au _) l λB j e f=> ?_) d.xb
 ·have:=d.bc e f;exact g e dB dB dB
 ·have:=d.bf e f;exact g e dB dB dB
 ·have:=d.xb B j e f;have x:e<h.size:=by
   rcases j with rfl|rfl|j
   ·exact(d.tx.ba e f).2.1
   ·exact(d.tx.bb e f).2
   ·obtain⟨_,A⟩:=d.tx.el.left j;exact(A.2 e f).2.1
  exact g e x dB dB 
def SJ.cell(e:SJ c s ch i S k p n0 cc cf ct es lo hi a b el t h){f n q:Nat}{o:Bool}{u:List T}(v:dU cc=some f)(w:h.get f=some ⟨1,n,q,o,false,u⟩)(g:Nat)(j:Int):SJ c s ch i S k p n0 cc cf ct es lo hi a b el t (d8 h f ⟨1,n,q+1,o,false,u.set g (dG j)⟩)/\∀d,d=5\/d=p->(d8 h f ⟨1,n,q+1,o,false,u.set g (dG j)⟩).get d=h.get d:=by
 have I:=e.n7;have J:=e.np;have F:=e.bc f v;have G:=e.m k e.hk;obtain⟨l1,A,y⟩:=e.gc;obtain⟨l2,B,z⟩:=e.gf;have l:∀d,(d8 h f ⟨1,n,q+1,o,false,u.set g (dG j)⟩).get d=if d=f then some ⟨1,n,q+1,o,false,u.set g (dG j)⟩else h.get d:=λd=>dQ w _ d;refine⟨e.gen (e.ok.put _ _) (by rw[fV];exact au _) (λd _ _ _ C _ _ _=>(l d).trans (ao λr=>C (by rw[r];exact v))) ⟨l1.set g j,?_,by simpa using y⟩ ⟨l2,B.mono λd r=>(l d).trans (ao λx=>(e.bf d r).2.2 (by rw[x];exact v)),z⟩ (e.tx.K1 (au _) (by rw[fV];exact au _) λE D d r=>(l d).trans (ao λx=> ?_)) e.xb,λd hr=>(l d).trans (ao dB)⟩
 ·have:=A.setAt v w g (dG j) ((l f).trans (aq rfl));simpa[gD,bW]using this
 ·have:=e.xb E D d r;omega
def SJ.fut(e:SJ c s ch i S k p n0 cc cf ct es lo hi a b el t h){f n q:Nat}{o:Bool}{u:List T}(v:dU cf=some f)(w:h.get f=some ⟨1,n,q,o,false,u⟩)(g:Nat)(j:Int):SJ c s ch i S k p n0 cc cf ct es lo hi a b el t (d8 h f ⟨1,n,q+1,o,false,u.set g (dG j)⟩)/\∀d,d=5\/d=p->(d8 h f ⟨1,n,q+1,o,false,u.set g (dG j)⟩).get d=h.get d:=by
 have I:=e.n7;have J:=e.np;have y:=e.bf f v;have G:=e.m k e.hk;obtain⟨l1,B,z⟩:=e.gc;obtain⟨l2,C,A⟩:=e.gf;have l:∀d,(d8 h f ⟨1,n,q+1,o,false,u.set g (dG j)⟩).get d=if d=f then some ⟨1,n,q+1,o,false,u.set g (dG j)⟩else h.get d:=λd=>dQ w _ d;refine⟨e.gen (e.ok.put _ _) (by rw[fV];exact au _) (λd _ _ _ _ D _ _=>(l d).trans (ao λr=>D (by rw[r];exact v))) ⟨l1,B.mono λd r=>(l d).trans (ao λx=>y.2.2 (by rw[<-x];exact r)),z⟩ ⟨l2.set g j,?_,by simpa using A⟩ (e.tx.K1 (au _) (by rw[fV];exact au _) λF E d r=>(l d).trans (ao λx=> ?_)) e.xb,λd hr=>(l d).trans (ao dB)⟩
 ·have:=C.setAt v w g (dG j) ((l f).trans (aq rfl));simpa[gD,bW]using this
 ·have:=e.xb F E d r;omega
end
def vX{d k:Int}(h:mF d=k)(f:k≠0):(k=3->d=6\/d=7)/\(k=4->d=8\/d=9)/\(k=5->d=10)/\(k=22->d=26)/\(k=23->d=27):=by
 have g:6<=d/\d<=28:=by
  unfold mF at h;split at h
  ·exact absurd h.symm f
  ·omega
 have e:d=6\/d=7\/d=8\/d=9\/d=10\/d=11\/d=12\/d=13\/d=14\/d=15\/d=16\/d=17\/d=18\/d=19\/d=20\/d=21\/d=22\/d=23\/d=24\/d=25\/d=26\/d=27\/d=28:=dB;rcases e with rfl|rfl|rfl|rfl|rfl|rfl|rfl|rfl|rfl|rfl|rfl|rfl|rfl|rfl|rfl|rfl|rfl|rfl|rfl|rfl|rfl|rfl|rfl<;>simp[mF,wG]at h<;>omega
def IH(p:Nat)(d:fX):Prop:=dJ d 3 (.ptr 0 0 0 0)/\dJ d 4 (.ptr 1 0 0 0)/\dJ d 5 (.ptr 2 0 0 0)/\dJ d 6 (.ptr 3 0 0 0)/\dJ d 7 (.ptr 4 0 0 0)/\dJ d 9 (.ptr 5 0 0 0)/\dJ d 14 (.ptr p 0 0 0)/\dJ d 15 (.ptr (p+1) 0 0 0)
def Ev9(d:eK)(h:H):Prop:=∃e f,h.get 5=some (dI 7 f [eK.t ⟨d.dZ,d.kind,d.obj,e,d.jg,d.mG,d.vh⟩])
def Th9(p:Nat)(a b:T)(e f:Int)(h:H):Prop:=∃d,h.get p=some (dI 4 d [.agg [dG e,a,b,dG f]])
def SJ.L4{c:jO}{s:iL}{ch:jf}{i:fU}{S:fK}{k p n0:Nat}{cc cf ct:T}{es:List T}{lo hi:Nat->Nat}{a b:T}{el:List T}{t:ez}{h:H}(e:SJ c s ch i S k p n0 cc cf ct es lo hi a b el t h){u:iY}(j:h.get 5=some u){l m:Int}(ht:Th9 p a b l m h)(d:eK)(f:Int)(g:Nat):
 SJ c s ch i S k p n0 cc cf ct es lo hi a b el t (d8 h 5 (dI 7 g [eK.t ⟨d.dZ,d.kind,d.obj,f,d.jg,d.mG,d.vh⟩]))/\Ev9 d (d8 h 5 (dI 7 g [eK.t ⟨d.dZ,d.kind,d.obj,f,d.jg,d.mG,d.vh⟩]))/\Th9 p a b l m (d8 h 5 (dI 7 g [eK.t ⟨d.dZ,d.kind,d.obj,f,d.jg,d.mG,d.vh⟩])):=by
 have v:=e.n7;have w:=e.np;obtain⟨r,o⟩:=ht;exact⟨e.mono (e.ok.put _ _) (by rw[fV];exact au _) λq _ n _=>(dQ j _ q).trans (ao n),⟨f,g,(dQ j _ 5).trans (aq rfl)⟩,⟨r,(dQ j _ p).trans ((ao dB).trans o)⟩⟩
def aeR(p:Nat)(ct:T)(m:Int)(h:H):Prop:=∃j d e l g n,h.get p=some (dI 4 n [.agg [dG j,d,e,dG l]])/\d.im=true/\d.cells=[d]/\e.im=true/\e.cells=[e]/\iG (FT h (λf=>f<h.size/\f≠p/\7<=f/\dU ct≠some f) 3) [dG j,d,e,dG l] (ez.cs g)/\UQ 1000000 g/\(g.dS=m+1\/g.dS=0)
def Hi:nK Tryz.prog cx 116 (λa:jO×iL×jf=>[a.1.t,a.2.1.t,a.2.2.t]) (λa=>(∀x∈a.1.dM,x.jk.length<=10000001)/\StI a.2.1/\Wl 999000 a.2.1) (λa=>ZK a.2.1):=by
 refine ju (tb:=⟨pt [(149,zR.jx),(107,tj)],ht [(163,jF iL Vt Ov),(164,jF Xq Oa B4)]⟩) fc fa (je 12259964349774246101165194645239424850975965214878597119 [(41,[(1,2)])] Tryz.func116) (λ_=>100) (λa b h=>by simp at h;exact aP (jO.inj h.1) (aP (iL.inj h.2.1) (jf.inj h.2.2))) dC (by simp[Tryz.f116]) ?_;rintro⟨c,s,ch⟩ ⟨gg,I,gd⟩ bk hd;simp only at gg I gd;simp at hd;obtain⟨j0,al,an⟩:=hd;have k3:ZG 1000000 s:=λt ht l hl=>((I.t t ht).tn l hl).1;obtain⟨_,⟨u,hG,rfl,kB,hs⟩,gQ⟩:=zR.use (c,s,ch.dZ) ⟨gg,k3⟩;simp only at gQ hs;have hq:ZK s (.tuple [iL.t ⟨⟨[],0,[],[]⟩,[],[],[]⟩,eK.t ⟨0,0,0,0,0,[],[]⟩,.bool false]):=⟨_,_,_,rfl,⟨dC,dC⟩,dC⟩;simp[Tryz.f116,j0,al,an,gQ];cases hG with
 |false=>
  simp;exact hq
 |true=>
 obtain⟨t,x,i,X⟩:=hs rfl;obtain⟨pu,pD⟩:=Ig X.f.v;have k2:NK s.fO:=⟨by have:=I.l;omega,by have:=I.l;omega,by have:=I.l;omega,λl hl=>by have:=I.r.len I.a l hl;omega,I.a⟩;have gM:rl Tryz.prog cx ⟨pt [(149,zR.jx),(107,tj)],ht [(163,jF iL Vt Ov),(164,jF Xq Oa B4)]⟩ 107 [c.fq.t,s.fO.t,dG ch.dZ,dG u.kind,dG u.obj,dG ch.E4]=some (x7 (c.fq,s.fO,ch.dZ,u.kind,u.obj,ch.E4)):=
  iv dC EA (c.fq,s.fO,ch.dZ,u.kind,u.obj,ch.E4) ⟨dE,k2⟩
 cases fS:jR c.fq s.fO ch.dZ u.kind u.obj with
 |false=>
  simp[gM,x7,fS];exact hq
 |true=>
 simp[gM,x7,fS];generalize kg:fg c.fq s.fO ch.dZ u.kind u.obj ch.E4=hY at*
 obtain⟨S,U⟩:=hY;simp;have hl:=I.l;generalize bz:H.cons _ _=bH;have hF:ij 0 bH:=by rw[<-bz];exact⟨dC,dC,dC⟩
 have m4:bH.size=7:=by rw[<-bz];rfl
 have mq:bH.get 0=some (dI 7 0 [c.t]):=by rw[<-bz];simp
 have mx:bH.get 1=some (dI 7 0 [s.t]):=by rw[<-bz];simp
 have mA:bH.get 2=some (dI 2 0 [ch.t]):=by rw[<-bz];simp
 have mC:bH.get 3=some (dI 7 0 [.agg [dH,dG 0,dH,dH,dH,dH,dH]]):=by rw[<-bz];simp
 have m0:bH.get 4=some (dI 7 0 [.agg [dG 0,dG 0,dG 0,dG 0,dG 0,dH,dH]]):=by rw[<-bz];simp
 have m1:bH.get 5=some (dI 7 1 [u.t]):=by rw[<-bz];simp
 have m2:bH.get 6=some (dI 4 1 [S.t]):=by rw[<-bz];simp
 clear bz;refine iu Pc dC s ⟨rfl,hF,⟨rfl,hF,dB,dB,dB,λl q=>by have:=I.r.len I.a l q;omega⟩,dB,dB,dB,λR dn=>⟨by have:=(I.t R dn).rl;omega,by have:=(I.t R dn).tl;omega,λl q=>((I.t R dn).tn l q).1⟩⟩ ?_;rintro _ cX ⟨nr,nu,nv,cc,cf,ct,es,lo,hi,n0,rfl,F⟩;have m3:=F.nb.ok.sz;have hV:=F.z;rw[m4]at m3 hV;have a1:=(F.nb.get 1 dB).trans mx;have hX:=(F.nb.get 6 dB).trans m2;have a2:=(F.nb.get 2 dB).trans mA;have a0:=(F.nb.get 0 dB).trans mq;obtain⟨eE,nF,eF,cy,cL,nX⟩:=F.k0;have p1:∀y,(d8 cX 1 y).get 1=some y:=λy=>(dQ a1 y _).trans (aq rfl);have p6:∀y,(d8 cX 1 y).get 6=cX.get 6:=λy=>(dQ a1 y _).trans (ao dB);simp[a1,ed,p1,p6,hX];generalize eo:d8 (d8 cX 1 _) 1 _=B;have pE:B.size=cX.size:=by rw[<-eo];simp
 have lc:ij 0 cX:=⟨F.nb.ok.hp,F.nb.ok.low,aw _⟩;have okB:ij 0 B:=by rw[<-eo];exact(lc.put _ _).put _ _
 have hJ:=(show B.get 1=some (dI 7 2 [.agg [sl (S.ew.map eg.t),dG S.tx,sl (S.done.map T.bool),sl (S.dM.map dP.t),cc,cf,ct]])by rw[<-eo];exact(dQ (p1 _) _ _).trans (aq rfl));have cb:∀k,k≠1->B.get k=cX.get k:=λk bN=>by rw[<-eo,dQ (p1 _),ao bN,dQ a1,ao bN]
 clear eo p1 p6;have hI:=(cb 0 dB).trans a0;have hK:=(cb 2 dB).trans a2;have lC:=(cb 5 dB).trans ((F.nb.get 5 dB).trans m1);have lw:=(cb 3 dB).trans ((F.nb.get 3 dB).trans mC);have lB:=(cb 4 dB).trans ((F.nb.get 4 dB).trans m0);have L:=F.th.mono (h':=B) dB λk bN _=>cb k dB;have bN:=X.n;rw[<-X.f.th]at bN;obtain⟨eV,W⟩:=fw.1 bN;have ca:=X.ht;have fL:∃gS,es[ch.dZ.toNat]? =some gS:=⟨_,aB (by rw[L.l];exact W)⟩;obtain⟨gS,eO⟩:=fL;obtain⟨a,b,el,rfl,e6⟩:=L.e _ _ _ eO ca;obtain⟨E,gV,hR,ext,hS,t1,t2,t3,t4⟩:=L.g.JG (te:=KB) rfl (i:=ch.dZ.toNat) (by rw[L.l];exact W);rw[show es[ch.dZ.toNat]'(by rw[L.l];exact W)=Bd t a b by rw[aB (by rw[L.l];exact W)]at eO;simpa using eO]at t4;have h5:=okB.low;have m5:∀k,k<7->(k=B.size)=False:=λk bN=>by simp;omega
 have qo:∀k,k<7->(k=B.size+1)=False:=λk bN=>by simp;omega
 have av:=X.hx;have ho:=X.hi;obtain⟨lu,o5,pa,pc⟩:=X.f.t _ _ _ ca av;have lR:=eQ lu;simp[hI,hJ,hK,t2,t3,t4,Bd,h5,eQ eV,m5,av,ho,lR];have oW:B.size<B.size+1:=dB;generalize dm:d8 ((B.cons _).cons _) (B.size+1) _=a7;have qa:a7.size=B.size+1+1:=by rw[<-dm,fV];rfl
 have lg:ij 0 a7:=by rw[<-dm];exact((okB.cons _).cons _).put _ _
 have hO:a7.get B.size=some (dI 4 1 [.agg [dG t.pC,a,b,dG t.dS]]):=by rw[<-dm,m6 ((okB.cons _).cons _).hp (by show _<B.size+1+1;omega),ao dB,dW,ao (by show¬_=B.size+1;omega),dW,aq rfl]
 have lE:a7.get (B.size+1)=some (dI 6 1 [i.t]):=by rw[<-dm,m6 ((okB.cons _).cons _).hp (by show _<B.size+1+1;omega),aq rfl]
 have hN:∀k,k<B.size->a7.get k=B.get k:=λk bN=>by
  rw[<-dm,m6 ((okB.cons _).cons _).hp (by show _<B.size+1+1;omega),ao dB,dW,ao (by show¬_=B.size+1;omega),dW,ao dB]
 clear dm;have r5:=(hN 5 dB).trans lC;have ii:∀y,(d8 a7 5 y).get 5=some y:=λy=>(dQ r5 y _).trans (aq rfl);simp[hO,r5,oh,ii];have lp:ij 0 (d8 a7 5 (dI 7 2 [eK.t ⟨u.dZ,u.kind,u.obj,U,u.jg,u.mG,u.vh⟩])):=lg.put _ _;have eI:∀k,(d8 a7 5 (dI 7 2 [eK.t ⟨u.dZ,u.kind,u.obj,U,u.jg,u.mG,u.vh⟩])).get k=_:=λk=>dQ r5 _ k;have qi:(d8 a7 5 (dI 7 2 [eK.t ⟨u.dZ,u.kind,u.obj,U,u.jg,u.mG,u.vh⟩])).size=a7.size:=fV ..;generalize d8 a7 5 (dI 7 2 [eK.t ⟨u.dZ,u.kind,u.obj,U,u.jg,u.mG,u.vh⟩])=a8 at*
 have oi:ch.dZ.toNat<s.dM.length:=W;obtain⟨pb,ps,o0,_,gw,gy,_,gz,_,_,hQ,_⟩:=HR X.f X.n;rw[ca]at gw;rw[av]at gy;simp only[ar]at gw gy;subst gw;subst gy;rw[ho]at gz;simp only[ar]at gz;subst gz;have et:∀K:Int,u.kind=K->K≠1->K≠17->K≠0->mF i.op=K:=λK al an a6 b9=>by
  rcases X.k with q|q|q
  ·omega
  ·omega
  ·omega
 have fY:=fS;unfold jR at fY;simp only[ay]at fY;have eS:=fY.1.2;have hj:u.kind=3\/u.kind=4->jt u.obj s.cells.length=true:=λq=>by
  rw[X.f.cl];unfold j1 at eS;rcases q with q|q<;>simpa[q]using eS
 have hn:u.kind=22\/u.kind=23->jt u.obj s.ei.length=true:=λq=>by
  rw[X.f.fu];unfold j1 at eS;rcases q with q|q<;>simpa[q]using eS
 have hL:u.kind=3\/u.kind=23\/u.kind=5->0<=i.a/\i.a<x.iS:=λq=>by
  refine hQ _ ?_;unfold iU;rcases q with q|q|q
  ·rcases(vX (et 3 q dB dB dB) dB).1 rfl with k|k<;>simp[k]
  ·simp[(vX (et 23 q dB dB dB) dB).2.2.2.2 rfl]
  ·simp[(vX (et 5 q dB dB dB) dB).2.2.1 rfl]
 have hM:u.kind=4\/u.kind=22->0<=i.b/\i.b<x.iS:=λq=>by
  refine hQ _ ?_;unfold iU;rcases q with q|q
  ·rcases(vX (et 4 q dB dB dB) dB).2.1 rfl with k|k<;>simp[k]
  ·simp[(vX (et 22 q dB dB dB) dB).2.2.2.1 rfl]
 have M:SJ c s ch i S ch.dZ.toNat B.size n0 cc cf ct es lo hi a b el t a8:=by
  have bB:∀k,k<B.size->k≠5->a8.get k=B.get k:=λk al an=>(eI k).trans ((ao an).trans (hN k al));have o1:=L.m _ W;have la:n0<=B.size:=by have:=F.zn;omega
  refine⟨lp,dB,hV,la,(bB 0 dB dB).trans hI,(bB 1 dB dB).trans hJ,(bB 2 dB dB).trans hK,(bB 3 dB dB).trans lw,(bB 4 dB dB).trans lB,?_,
   ⟨_,F.gc.mono λq x=> ?_,dC⟩,⟨_,F.gf.mono λq x=> ?_,dC⟩,λq x=> ?_,λq x=> ?_,L.g.mono λq x=> ?_,L.l,L.m,L.d,λq x=> ?_,λj u R eP fL dn=> ?_,W,⟨_,_,eO⟩,e6.K1 dB dB λv eU q x=> ?_,λv eU q x=> ?_⟩
  ·exact(eI _).trans ((ao dB).trans lE)
  ·have:=F.bc q x;exact(bB q dB dB).trans (cb q dB)
  ·have:=F.bf q x;exact(bB q dB dB).trans (cb q dB)
  ·have:=F.bc q x;omega
  ·have:=F.bf q x;exact⟨dB,this.2.1,this.2.2⟩
  ·obtain⟨_,_,_,_,g,_⟩:=L.g.box x;have:=(L.c q x).1;exact bB q (H.eJ g) dB
  ·obtain⟨_,_,_,_,g,_⟩:=L.g.box x;exact⟨(L.c q x).1,H.eJ g,(L.c q x).2⟩
  ·obtain⟨e9,fb,Nq,rfl,lS⟩:=L.e j u R fL dn;have k7:=L.m j (List.getElem?_eq_some_iff.1 dn).1;exact .inr (.inr ⟨_,_,rfl,(lS.mono (h':=a8) (au _) (au _) λq al an=>bB q dB dB).fz _ λq al an=>⟨al,an⟩,rfl⟩)
  all_goals
   have hg:lo ch.dZ.toNat<=q/\q<hi ch.dZ.toNat:=by
    rcases eU with rfl|rfl|eU
    ·have:=e6.ba q x;omega
    ·exact e6.bb q x
    ·obtain⟨_,w⟩:=e6.el.left eU;have:=w.2 q x;exact⟨this.1,this.2.1⟩
  ·exact bB q dB dB
  ·exact⟨hg.1,.inl hg.2⟩
 refine Rf (λbk h=>IH B.size bk/\(∃n,dJ bk 16 (dG n))/\SJ c s ch i S ch.dZ.toNat B.size n0 cc cf ct es lo hi a b el t h/\Ev9 u h/\Th9 B.size a b t.pC t.dS h) ?_ ?_
 ·have Q:=(eI 5).trans (aq rfl);have dk:=(eI B.size).trans ((ao dB).trans hO);have eC:Ev9 u a8:=⟨U,2,Q⟩;have bT:Th9 B.size a b t.pC t.dS a8:=⟨1,dk⟩;cases nw:decide (u.kind=1)with
  |true=>
   simp[dk,IH];exact⟨M,eC,bT⟩
  |false=>
  cases b7:decide (u.kind=16)with
  |true=>
   simp[b7,dk,IH];exact⟨M,eC,bT⟩
  |false=>
  cases ce:decide (u.kind=2)with
  |true=>
   simp[b7,ce,dk,IH];exact⟨M,eC,bT⟩
  |false=>
  cases cp:decide (u.kind=3)with
  |true=>
   obtain⟨l1,bC,bS⟩:=M.gc;have bi:=fw.1 (hj (.inl (by simpa using cp)));obtain⟨p1,P,bn⟩:=(show oX a8 1 cc (gD l1)from .inr bC).idx (te:=GE) rfl rfl (i:=u.obj.toNat) (x:= dG l1[u.obj.toNat]) (by simp[bS,bi.2]) rfl;simp[b7,ce,cp,Q,M.b1,eQ bi.1,P,bn,IH];exact M.L4 Q bT u _ _
  |false=>
  cases de:decide (u.kind=23)with
  |true=>
   obtain⟨l1,bC,bS⟩:=M.gf;have bi:=fw.1 (hn (.inr (by simpa using de)));obtain⟨p1,P,bn⟩:=(show oX a8 1 cf (gD l1)from .inr bC).idx (te:=GE) rfl rfl (i:=u.obj.toNat) (x:= dG l1[u.obj.toNat]) (by simp[bS,bi.2]) rfl;simp[b7,ce,cp,de,Q,M.b1,eQ bi.1,P,bn,IH];exact M.L4 Q bT u _ _
  |false=>
  have fo:oX a8 1 a (gD t.iS):= .inr M.tx.ga;have e5:∀x y:Int,ml (dG x) 0 [dG y]=some (dG y):=λx y=>rfl;cases di:decide (u.kind=4)with
  |true=>
   have gv:=hM (.inl (by simpa using di));have bi:=fw.1 (hj (.inr (by simpa using di)));obtain⟨p1,P,bn⟩:=fo.idx (te:=GE) rfl rfl (i:=i.b.toNat) (x:= dG t.iS[i.b.toNat]) (by simp[show i.b.toNat<t.iS.length by omega]) rfl;obtain⟨aA,aE,t5⟩:=M.L4 Q bT u t.iS[i.b.toNat] 3;have cL:=(dQ Q (dI 7 3 [eK.t ⟨u.dZ,u.kind,u.obj,t.iS[i.b.toNat],u.jg,u.mG,u.vh⟩]) 5).trans (aq rfl);simp[b7,ce,cp,de,di,Q,dk,M.bq,eQ gv.1,P,bn,IH];generalize d8 a8 5 (dI 7 3 [eK.t ⟨u.dZ,u.kind,u.obj,t.iS[i.b.toNat],u.jg,u.mG,u.vh⟩])=ap at*
   obtain⟨l1,bC,bS⟩:=aA.gc;obtain⟨q,ae,l7,gX,mi,gm,gn,ey,eA⟩:=bC.JG (te:=GE) rfl (i:=u.obj.toNat) (by simpa[bS]using bi.2);simp at eA;obtain⟨gk,ef⟩:=aA.cell gm ey u.obj.toNat t.iS[i.b.toNat];simp[aA.b1,cL,eQ bi.1,gn,ey,eA,e5];obtain⟨gE,gI,gj⟩:=aE;obtain⟨dv,c6⟩:=t5;exact⟨gk,⟨gE,gI,(ef 5 (.inl rfl)).trans gj⟩,dv,(ef _ (.inr rfl)).trans c6⟩
  |false=>
  cases eb:decide (u.kind=22)with
  |true=>
   have gv:=hM (.inr (by simpa using eb));have bi:=fw.1 (hn (.inl (by simpa using eb)));obtain⟨p1,P,bn⟩:=fo.idx (te:=GE) rfl rfl (i:=i.b.toNat) (x:= dG t.iS[i.b.toNat]) (by simp[show i.b.toNat<t.iS.length by omega]) rfl;obtain⟨aA,aE,t5⟩:=M.L4 Q bT u t.iS[i.b.toNat] 3;have cL:=(dQ Q (dI 7 3 [eK.t ⟨u.dZ,u.kind,u.obj,t.iS[i.b.toNat],u.jg,u.mG,u.vh⟩]) 5).trans (aq rfl);simp[b7,ce,cp,de,di,eb,Q,dk,M.bq,eQ gv.1,P,bn,IH];generalize d8 a8 5 (dI 7 3 [eK.t ⟨u.dZ,u.kind,u.obj,t.iS[i.b.toNat],u.jg,u.mG,u.vh⟩])=ap at*
   obtain⟨l1,bC,bS⟩:=aA.gf;obtain⟨q,ae,l7,gX,mi,gm,gn,ey,eA⟩:=bC.JG (te:=GE) rfl (i:=u.obj.toNat) (by simpa[bS]using bi.2);simp at eA;obtain⟨gk,ef⟩:=aA.fut gm ey u.obj.toNat t.iS[i.b.toNat];simp[aA.b1,cL,eQ bi.1,gn,ey,eA,e5];obtain⟨gE,gI,gj⟩:=aE;obtain⟨dv,c6⟩:=t5;exact⟨gk,⟨gE,gI,(ef 5 (.inl rfl)).trans gj⟩,dv,(ef _ (.inr rfl)).trans c6⟩
  |false=>
  cases fi:decide (u.kind=5)with
  |false=>
   simp[b7,ce,cp,de,di,eb,fi,IH];exact⟨M,eC,bT⟩
  |true=>
   have e4:=hL (.inr (.inr (by simpa using fi)));obtain⟨p1,P,bn⟩:=fo.idx (te:=GE) rfl rfl (i:=i.a.toNat) (x:= dG t.iS[i.a.toNat]) (by simp[show i.a.toNat<t.iS.length by omega]) rfl;obtain⟨aA,aE,t5⟩:=M.L4 Q bT u 1 3;have cL:=(dQ Q (dI 7 3 [eK.t ⟨u.dZ,u.kind,u.obj,1,u.jg,u.mG,u.vh⟩]) 5).trans (aq rfl);simp[b7,ce,cp,de,di,eb,fi,Q,IH];generalize d8 a8 5 (dI 7 3 [eK.t ⟨u.dZ,u.kind,u.obj,1,u.jg,u.mG,u.vh⟩])=ap at*
   obtain⟨p1,P,bn⟩:=(show oX ap 1 a (gD t.iS)from .inr aA.tx.ga).idx (te:=GE) rfl rfl (i:=i.a.toNat) (x:= dG t.iS[i.a.toNat]) (by simp[show i.a.toNat<t.iS.length by omega]) rfl;obtain⟨dv,c6⟩:=t5;obtain⟨hy,lX,t6⟩:=aA.L4 cL ⟨dv,c6⟩ u 0 4;have h4:=hy.bq;simp[c6,aA.bq,eQ e4.1,P,bn];refine em (λq=> ?_) (λq=> ?_)
   ·simp[cL,h4];exact⟨hy,lX,t6⟩
   ·simp;exact⟨aA,aE,dv,c6⟩
 ·rintro bk h ⟨⟨a6,b9,ap,bp,bs,bu,aX,b8⟩,⟨c7,eM⟩,A,⟨v,aE,aN⟩,b6,ae⟩;simp[bu,aN];have o4:=A.ok;refine lq (λbk h=>IH B.size bk/\(∃n,dJ bk 16 (dG n))/\∃Nq t',t'.pC=t.pC/\t'.dS=t.dS/\UQ 1000000 t'/\SJ c s ch i S ch.dZ.toNat B.size n0 cc cf ct es lo hi a b Nq t' h/\Ev9 u h/\Th9 B.size a b t.pC t.dS h) (λG=> ?_) (λG=> ?_) ?_
  ·have e4:=hL (by simpa[or_assoc]using(by simpa using G:u.kind=3\/u.kind=23).elim .inl λq=> .inr (.inl q));have oj:el.length=t.kc.length:=A.tx.el.length;have j5:i.a.toNat<t.iS.length:=dB;have j6:i.a.toNat<el.length:=dB;obtain⟨Y,ia,l9,ib,mj,er,kb,fC,hf⟩:=A.tx.ga.JG (te:=GE) rfl (i:=i.a.toNat) (by simpa using j5);simp at hf;have e5:∀x y:Int,ml (dG x) 0 [dG y]=some (dG y):=λx y=>rfl;have k9:=A.n7;have o3:=A.np;have oV:=A.z;have hh:=A.tx.ba Y er;have oC:=A.xb a (.inl rfl) Y er;have ov:=A.m _ A.hk;simp[bu,aX,b8,ae,aN,A.bq,eQ e4.1,kb,fC,hf,e5];generalize k6:iY.mk 1 ia (l9+1) ib false (mj.set i.a.toNat (dG v))=c9 at*
   have ea:∀w,(d8 h Y c9).get w=if w=Y then some c9 else h.get w:=λw=>dQ fC c9 w;have lb:ij 0 (d8 h Y c9):=A.ok.put _ _;have px:(d8 h Y c9).size=h.size:=fV ..;have h6:=(ea B.size).trans ((ao dB).trans ae);have h7:=(ea (B.size+1)).trans ((ao dB).trans A.bq);have nB:=(ea 5).trans ((ao dB).trans aN);generalize od:d8 h Y c9=J at*
   have eL:Gr J b 1 el:=A.tx.gb.mono λw hr=>(ea w).trans (ao λx=>hh.2.2 (by rw[<-x];exact hr));obtain⟨Z,ec,e7,eD,e8,c1,kk,eN,fE⟩:=(eL.mono (h':=J.cons (dI 1 0 [dG t.dS])) λw hr=>by rw[dW,ao (by have:=(A.tx.bb w hr).2;omega)]).JG (te:=nL) rfl (i:=i.a.toNat) j6;obtain⟨nA,kp,lD⟩:=A.tx.el.get (aB (show i.a.toNat<t.kc.length by omega));have lG:=BQ (x:= .arr J.size 0 0 1 false) lD.1.na;replace fE:=fE.trans ((aB _).symm.trans kp);have kn:b= .arr Z ec 0 el.length false:=by
    obtain⟨_,_,_,_,q,u⟩:=(eL.mono (h':=J.cons (dI 1 0 [dG t.dS])) λw hr=>by rw[dW,ao (by have:=(A.tx.bb w hr).2;omega)]).box c1;rw[eN]at q;simp at q;rw[u,q.1]
   simp[aX,b8,eM,h6,h7,eQ e4.1,kk,eN,fE,lG];have n8:=A.tx.bb Z c1;have oT:=A.xb b (.inr (.inl rfl)) Z c1;have kd:Y≠Z:=λq=>hh.2.2 (by rw[q];exact c1);have lh:ij 0 (d8 (J.cons (dI 1 0 [dG t.dS])) Z ⟨1,ec,e7+1,eD,false,e8.set i.a.toNat (.arr J.size 0 0 1 false)⟩):=(lb.cons _).put _ _;have qe:(d8 (J.cons (dI 1 0 [dG t.dS])) Z ⟨1,ec,e7+1,eD,false,e8.set i.a.toNat (.arr J.size 0 0 1 false)⟩).size=h.size+1:=by rw[fV];show J.size+1=_;omega
   have eB:∀w,(d8 (J.cons (dI 1 0 [dG t.dS])) Z ⟨1,ec,e7+1,eD,false,e8.set i.a.toNat (.arr J.size 0 0 1 false)⟩).get w=if w=Z then some ⟨1,ec,e7+1,eD,false,e8.set i.a.toNat (.arr J.size 0 0 1 false)⟩else if w=J.size then some (dI 1 0 [dG t.dS])else if w=Y then some c9 else h.get w:=λw=>(dQ eN _ w).trans (by rw[dW,ea]);generalize d8 (J.cons _) Z _=fA at*
   have jC:=(eL.mono (h':=J.cons (dI 1 0 [dG t.dS])) λw hr=>by rw[dW,ao (by have:=(A.tx.bb w hr).2;omega)]).setAt c1 eN i.a.toNat (.arr J.size 0 0 1 false) (h':=fA) ((eB Z).trans (aq rfl));have jj:=A.tx.ga.setAt er fC i.a.toNat (dG v) (h':=fA) ((eB Y).trans ((ao kd).trans ((ao dB).trans ((aq rfl).trans (by rw[k6])))));have dd:∀w,w<h.size->w≠Y->w≠Z->fA.get w=h.get w:=λw al an a6=>(eB w).trans ((ao a6).trans ((ao dB).trans (ao an)));have h8:∀w,dU a=some w->w=Y:=λw hr=>by rw[er]at hr;simpa using hr.symm
   have h9:∀w,dU b=some w->w=Z:=λw hr=>by rw[c1]at hr;simpa using hr.symm
   have n9:=gd t (ax ca);have gi:=I.t t (ax ca);have e0:∀w,dU a≠some w->dU b≠some w->w≠Y/\w≠Z:=λw al an=>⟨λx=>al (by rw[x];exact er),λx=>an (by rw[x];exact c1)⟩;refine⟨by simp[IH,a6,b9,ap,bp,bs,bu,aX,b8],el.set i.a.toNat (.arr J.size 0 0 1 false),⟨t.pC,t.iS.set i.a.toNat v,t.kc.set i.a.toNat [t.dS],t.dS⟩,rfl,rfl,⟨by simpa using gi.rl,by simpa using gi.tl,λl hl=> ?_⟩,
    A.gen lh dB (λw al an a6 _ _ bp bs=>dd w al (e0 w bp bs).1 (e0 w bp bs).2) ?_ ?_ ⟨by simpa[gD,bW]using jj,jC,A.tx.el.set i.a.toNat ⟨.inr ?_,λw hr=> ?_⟩ λu l q=>⟨q.1.mono λw hr=> ?_,λw hr=> ?_⟩,λw hr=> ?_,λw hr=> ?_⟩ λU hw w hr=> ?_,⟨v,aE,(dd 5 dB dB dB).trans aN⟩,b6,(dd _ dB dB dB).trans ae⟩
   ·rcases bZ hl with q|rfl
    ·exact gi.tn l q
    ·exact⟨dC,λx av=>by simp at av;subst av;omega⟩
   ·obtain⟨l1,eE,P⟩:=A.gc;exact⟨l1,eE.mono λw hr=>by have:=A.bc w hr;exact dd w dB dB dB,P⟩
   ·obtain⟨l1,eE,P⟩:=A.gf;exact⟨l1,eE.mono λw hr=>by have:=A.bf w hr;exact dd w dB dB dB,P⟩
   ·have:=Gr.new ((eB J.size).trans ((ao dB).trans (aq rfl)));simpa using this
   ·simp at hr;subst hr;exact⟨dB,dB,λq=>by have:=h8 _ q;omega,λq=>by have:=h9 _ q;omega⟩
   ·obtain⟨W,hA,eW,eX⟩:=q.2 w hr;exact dd w hA (e0 w eW eX).1 (e0 w eW eX).2
   ·obtain⟨W,hA,eW,eX⟩:=q.2 w hr;exact⟨W,dB,eW,eX⟩
   ·have:=A.tx.ba w hr;exact⟨this.1,dB,this.2.2⟩
   ·have:=A.tx.bb w hr;exact⟨this.1,dB⟩
   ·rcases hw with rfl|rfl|hw
    ·exact A.xb _ (.inl rfl) w hr
    ·exact A.xb _ (.inr (.inl rfl)) w hr
    ·rcases bZ hw with q|rfl
     ·exact A.xb U (.inr (.inr q)) w hr
     ·simp at hr;subst hr;omega
  ·simp[IH,a6,b9,ap,bp,bs,bu,aX,b8,eM];exact⟨el,t,rfl,rfl,I.t _ (ax ca),A,⟨v,aE,aN⟩,b6,ae⟩
  rintro bk h ⟨⟨a6,b9,ap,bp,bs,bu,aX,b8⟩,⟨c7,eM⟩,Nq,t',oA,oB,ds,A,⟨v,aE,aN⟩,b6,ae⟩;have eh:∀y,(d8 h B.size y).get B.size=some y:=λy=>(dQ ae y _).trans (aq rfl);have ha:∀y,∀q,q<7->(d8 h B.size y).get q=h.get q:=λy q G=>(dQ ae y _).trans (ao dB);have gZ:∀y C,(d8 (d8 h B.size y) B.size C).get B.size=some C:=λy C=>(dQ (eh y) C _).trans (aq rfl);have fv:∀y C,∀q,q<7->(d8 (d8 h B.size y) B.size C).get q=h.get q:=λy C q G=>(dQ (eh y) C _).trans ((ao dB).trans (ha y q G));simp[bu,aX,eM,aN,ae,oh,ed,eh,fv];have kn:=gd t (ax ca);have k5:IntKind.i64.wrap (t.dS+1)=t.dS+1:=by rw[<-jI,jL dB dB]
  rw[k5];have Pa:ij 0 (d8 (d8 h B.size (dI 4 (b6+1) [.agg [dG t.pC,a,b,dG (t.dS+1)]])) B.size ⟨4,0,b6+1+1,true,false,[.agg [dG c7,a,b,dG (t.dS+1)]]⟩):=(A.ok.put _ _).put _ _;have D:=A.mono Pa (by rw[fV,fV];exact au _) λq _ _ G=>by rw[dQ (eh _),ao G,dQ ae,ao G]
  have gP:=(fv (dI 4 (b6+1) [.agg [dG t.pC,a,b,dG (t.dS+1)]]) ⟨4,0,b6+1+1,true,false,[.agg [dG c7,a,b,dG (t.dS+1)]]⟩ 5 dB).trans aN;have gp:=gZ (dI 4 (b6+1) [.agg [dG t.pC,a,b,dG (t.dS+1)]]) ⟨4,0,b6+1+1,true,false,[.agg [dG c7,a,b,dG (t.dS+1)]]⟩;generalize d8 (d8 h B.size _) B.size _=hb at*
  clear eh ha gZ fv A ae aN;refine lq (λbk h=>IH B.size bk/\SJ c s ch i S ch.dZ.toNat B.size n0 cc cf ct es lo hi a b Nq t' h/\Ev9 u h/\aeR B.size ct t.dS h) (λG=> ?_) (λG=> ?_) ?_
  ·have k4:=ax av;simp[a6,ap,aX,D.b0,D.b2,eQ eV,av,gp];refine iu OM dC ⟨x,⟨c7,t'.iS,t'.kc,t.dS+1⟩,a,b,Nq,7,hb.size,1000000⟩ ⟨rfl,D.tx.same rfl rfl,au _,Pa,⟨ds.rl,ds.tl,ds.tn⟩,au _,gg x k4⟩ ?_;rintro _ hE ⟨R,hG,rfl,gB,hP,qc,fl,hD⟩;have qb:=D.z;have hH:=(fl B.size dB).trans gp;have fs:∀y,∀q,(d8 hE B.size y).get q=if q=B.size then some y else hE.get q:=λy q=>dQ hH y q;simp[IH,a6,b9,ap,bp,bs,bu,aX,b8,hH,ed];have hW:=D.mono (h':=hE) hD dB λq G _ _=>fl q G;refine⟨hW.mono (hD.put _ _) (by rw[fV];exact au _) λq _ _ G=>(fs _ q).trans (ao G),⟨v,aE,(fs _ 5).trans ((ao dB).trans ((fl 5 dB).trans gP))⟩,R.pC,sl (gD R.iS),sl (R.kc.map ZH),R.dS,R,_,(fs _ _).trans (aq rfl),dC,dC,dC,dC,?_,gB,hP⟩;exact .cons (f9 ..) (.cons (o7 _ _ _ λx av=>(HQ _ x av).1) (.cons (o7 _ _ _ λx av=>by obtain⟨l,_,rfl⟩:=List.mem_map.1 av;simp[ZH]) (.cons (f9 ..) .nil)))
  ·simp[IH,a6,b9,ap,bp,bs,bu,aX,b8];refine⟨D,⟨v,aE,gP⟩,_,_,_,_,⟨c7,t'.iS,t'.kc,t.dS+1⟩,_,gp,D.tx.ga.im,D.tx.ga.cells,D.tx.gb.im,D.tx.gb.cells,(D.tx.same (s':=⟨c7,t'.iS,t'.kc,t.dS+1⟩) rfl rfl).fzB _ λU hw q x=> ?_,⟨ds.rl,ds.tl,ds.tn⟩,.inl rfl⟩;have pe:=D.xb U hw q x;have pm:=D.m _ D.hk;have pn:=D.n7;have mb:q<hb.size:=by
    rcases hw with rfl|rfl|hw
    ·exact(D.tx.ba q x).2.1
    ·exact(D.tx.bb q x).2
    ·obtain⟨_,w⟩:=D.tx.el.left hw;exact(w.2 q x).2.1
   exact⟨mb,dB,dB,λy=>by have:=D.bt q y;have:=this.2.2 _ D.hk;omega⟩
  rintro bk h ⟨⟨a6,b9,ap,bp,bs,bu,aX,b8⟩,A,⟨v,aE,aN⟩,hB,e9,fb,hC,R,pd,lv,n1,n2,eL,n5,lW,gB,hP⟩;obtain⟨E,gV,hR,ext,hS,t1,t2,t3,t4⟩:=A.gt.JG (te:=KB) rfl (i:=ch.dZ.toNat) (by rw[A.l];exact W);obtain⟨gX,nE,kD⟩:=A.ek;replace t4:=t4.trans ((aB _).symm.trans kD);have nn:=A.bt E t1;obtain⟨l1,bC,bS⟩:=A.gc;obtain⟨l2,jZ,k1⟩:=A.gf;generalize hv:iY.mk 4 gV (hR+1) ext false (hS.set ch.dZ.toNat (.agg [dG hB,e9,fb,dG hC]))=O;have gY:∀q,(d8 h E O).get q=if q=E then some O else h.get q:=λq=>dQ t3 O q;have eH:∀q,q<7->(d8 h E O).get q=h.get q:=λq G=>(gY q).trans (ao dB);have hZ:=(eH 1 dB).trans A.b1;have fe:=(eH 3 dB).trans A.b3;have nk:=(eH 4 dB).trans A.b4;have h3:=(eH 5 dB).trans aN;have eF:∀y q,(d8 (d8 h E O) 3 y).get q=if q=3 then some y else if q=E then some O else h.get q:=λy q=>(dQ fe y q).trans (by rw[gY]);have cy:∀y C q,(d8 (d8 (d8 h E O) 3 y) 4 C).get q=if q=4 then some C else if q=3 then some y else if q=E then some O else h.get q:=λy C q=>(dQ ((eF y 4).trans ((ao dB).trans ((ao dB).trans A.b4))) C q).trans (by rw[eF]);have o2:(3=E)=False:=dD;have k8:(4=E)=False:=dD;have sv:∀y,ff (d8 h E O) (d8 (d8 h E O) 3 y) 5=true:=λy=>mR fe dB y;have ic:∀y C,TI.fz (d8 (d8 (d8 h E O) 3 y) 4 C) cc=some (sl (gD l1)):=λy C=>(bC.mono (h':=d8 (d8 (d8 h E O) 3 y) 4 C) λq x=>by
   have:=A.bc q x;rw[cy,ao dB,ao dB,ao dB]).fz dC
  have ie:∀y C,TI.fz (d8 (d8 (d8 h E O) 3 y) 4 C) cf=some (sl (gD l2)):=λy C=>(jZ.mono (h':=d8 (d8 (d8 h E O) 3 y) 4 C) λq x=>by
   have:=A.bf q x;rw[cy,ao dB,ao dB,ao dB]).fz dC
  have ih:∀y C,TI.fz (d8 (d8 (d8 h E O) 3 y) 4 C) ct=some (sl ((s.dM.set ch.dZ.toNat R).map ez.t)):=λy C=>by
   refine(A.gt.setAt t1 t3 ch.dZ.toNat (.agg [dG hB,e9,fb,dG hC]) (h':=d8 (d8 (d8 h E O) 3 y) 4 C) (by rw[cy,ao dB,ao dB,aq rfl,hv])).H6 (V:=λ_=>True) (d:=4) dB (Bx (by simp[A.l]) λj x U eu hw=> ?_);rw[aQ]at hw;obtain⟨lT,c4,rfl⟩:=Option.map_eq_some_iff.1 hw;by_cases eP:j=ch.dZ.toNat
   ·subst eP;rw[dy (by rw[A.l];exact W)]at eu;rw[dy W]at c4;simp at eu c4;subst eu;subst c4;exact .inr (.inr ⟨_,_,rfl,lW.imp λ_ _ k=>k.mono λq G=>⟨trivial,by rw[cy,ao dB,ao dB,ao (λx=>G.2.2.2 (by rw[x];exact t1))]⟩,rfl⟩)
   ·rw[cI (λx=>eP x.symm)]at eu c4;have k7:=A.m j (List.getElem?_eq_some_iff.1 c4).1;have k9:=A.n7;refine(A.o j x lT eP eu c4).mono λq G=>⟨trivial,?_⟩;rw[cy,ao dB,ao dB,ao (λx=>(A.bt E t1).2.2 j (List.getElem?_eq_some_iff.1 c4).1 (by rw[<-x];exact G))]
  simp[b9,ap,bp,bs,bu,aX,A.b1,A.b2,eQ eV,lv,t2,t3,t4,ed,hv,hZ,fe,h3,eF,cy,k8,A.b4,sv,ic,ie,ih,A.ok.hp];have fB:S=(fg c.fq s.fO ch.dZ u.kind u.obj ch.E4).1:=by rw[kg]
  have eR:=x8 c.fq s.fO ch.dZ u.kind u.obj ch.E4;rw[<-fB]at eR;refine⟨⟨S,l1,l2,s.dM.set ch.dZ.toNat R⟩,⟨u.dZ,u.kind,u.obj,v,u.jg,u.mG,u.vh⟩,true,by simp[iL.t,iL.cs,bW],kB,λ_=>⟨⟨⟨by rw[eR.1];omega,by rw[eR.2.1];omega,by rw[eR.2.2];omega,by rw[bS];omega,by rw[k1];omega,dD⟩,?_,?_,λU hw=> ?_⟩,λN hc U hw=> ?_⟩⟩
  ·rw[fB];refine Da I.r _ ⟨eV,?_⟩ _ _ _;have:=X.f.th;omega
  ·rw[fB];exact yc I.a _ _ _ _ _
  ·rcases bZ hw with q|rfl
   ·exact I.t U q
   ·exact gB
  ·rcases bZ hw with q|rfl
   ·have:=hc U q;omega
   ·have:=hc t (ax ca);omega
end
end Go.Proofs.YtmaeadedikngoaaGreatDoor
