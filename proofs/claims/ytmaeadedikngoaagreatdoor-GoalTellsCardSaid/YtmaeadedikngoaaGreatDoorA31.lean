/- Texts W09e to W09e. -/
import Derived.Test.YtmaeadedikngoaaGreatDoorA30
set_option linter.all false
set_option maxRecDepth 100000
set_option maxHeartbeats 8000000
namespace Go.Proofs.YtmaeadedikngoaaGreatDoor
noncomputable section
open Go Go.TI
attribute [-simp] List.map_take List.map_drop List.map_append fG fg ei Bool.not_or Bool.not_and
attribute [simp] fF fh
attribute [-simp] size_cons
def Q8{j:Out}{e f:iM}(o:W j e)(q:∀d h,e.n d h->f.n d h)(v:∀i d h,e.x i d h->f.x i d h)(u:∀d h,e.r d h->f.r d h):W j f:=by
 obtain⟨l,d,h,m,g⟩:=o;refine⟨l,d,h,m,?_⟩;cases l with
 |normal=>exact q d h g
 |exit i=>exact v i d h g
 |ret=>exact u d h g
def Rt{cx:Ctx}{cf:iY}{z y id:Nat}{u:DL}{t:Bool}{a b:Code}{m:Env->H->Out}{d:Env}{h:H}{f:iM}(l:fW->H->Prop)(v:CK (some (.bool t)) cx cf z y u a b d h (FK m (rV id (xQ (λd h=>d.tmps= .nil/\l d.vars h) f))))
 (B:∀o h,l o h->f.n ⟨o,.nil⟩ h):CK (some (.bool t)) cx cf z y u a b d h (FK m (rV id f)):=by
 have q:∀d h,(d.tmps= .nil/\l d.vars h)->f.n d h:=λd h ⟨e,w⟩=>by obtain⟨o,C⟩:=d;simp only at e w;subst e;exact B o h w
 have A:∀g,W g (rV id (xQ (λd h=>d.tmps= .nil/\l d.vars h) f))->W g (rV id f):=λg r=>Q8 r q (λi d h e=>by
  rw[yK]at e|-;split
  ·rename_i j;rw[aq j]at e;exact q d h e
  ·rename_i j;rw[ao j]at e;exact e) λ_ _ e=>e
 have x:∀g,W g (FK m (rV id (xQ (λd h=>d.tmps= .nil/\l d.vars h) f)))->W g (FK m (rV id f)):=λg r=>Q8 r (λd h e=>A _ e) (λi d h e=>by
  rw[Wj,yK]at e|-;split
  ·rename_i j;rw[aq j]at e;exact q d h e
  ·rename_i j;rw[ao j]at e;exact e) λ_ _ e=>e
 cases t
 ·exact x _ v
 ·exact x _ v
structure StI(s:iK):Prop where
 l:s.fM.em.length<=1000/\s.fM.done.length<=1000/\s.fM.dK.length<=1000/\s.cells.length<=1000/\s.eg.length<=1000/\s.dK.length<=1000
 r:IJ 4 s.fM
 a:s.fM.E4
 t:∀t∈s.dK,U6 1000000 t
def WE(d:Nat)(s:iK):Prop:=∀t∈s.dK,0<=t.dO/\t.dO<=d
def ZU(s:iK)(j:T):Prop:=∃(d:iK) (f:ez) (g:Bool),j= .tuple [d.t,f.t,.bool g]/\evN 1000000 f/\(g=true->StI d/\∀e:Nat,WE e s->WE (e+1) d)
def A3.Lf{lo l hi j:Nat}{h h':H}{a b:T}{es:List T}{s:eG}(t:A3 lo hi h a b es s)(hl:l<=lo)(r:hi<=j)(f:∀e,(e=a\/e=b\/e∈es)->∀c,dS e=some c->h'.get c=h.get c):A3 l j h' a b es s:=
 ⟨t.ga.mono λc d=>f a (.inl rfl) c d,t.gb.mono λc d=>f b (.inr (.inl rfl)) c d,t.el.imp_mem λm n u d=>⟨d.1.mono λc g=>f m (.inr (.inr n)) c g,λc g=>by
   obtain⟨v,w,o,q⟩:=d.2 c g;exact⟨dz,dz,o,q⟩⟩,λc d=>by have:=t.ba c d;exact⟨dz,dz,this.2.2⟩,λc d=>by have:=t.bb c d;exact⟨dz,dz⟩⟩
def A3.fzB{lo hi:Nat}{h:H}{a b:T}{es:List T}{s:eG}(t:A3 lo hi h a b es s)(o:Nat->Prop)(n:∀m,(m=a\/m=b\/m∈es)->∀c,dS m=some c->o c):iB (FT h o 3) [dE s.pC,a,b,dE s.dO] s.cs:=
 .cons (fQ ..) (.cons ((show oG h 1 a (gF s.iT)from .inr t.ga).ft (d:=1) (HW _) λc g=>n a (.inl rfl) c g)
  (.cons (t.gb.ft (λc g=>n b (.inr (.inl rfl)) c g) ((t.el.imp_mem (R':=λe j=>oG h 1 e (gF j)/\e∈es) λe q j l=>⟨l.1,q⟩).Wc (f:=λj=>sl (gF j)) λe j l=>l.1.ft (d:=0) (HW _) λc g=>n e (.inr (.inr l.2)) c g)) (.cons (fQ ..) .nil)))
def BH{g j:Type}{l:g->j->Prop}:∀{e:List g} {f:List j},e.length=f.length->(∀(d:Nat) (a:g) (b:j),e[d]? =some a->f[d]? =some b->l a b)->iB l e f
 | [],[],_,_=> .nil
 |a::e,b::f,hl,h=> .cons (h 0 a b rfl rfl) (BH (by simpa using hl) λd o q m n=>h (d+1) o q (by simpa using m) (by simpa using n))
 | [],_::_,hl,_=>by simp at hl
 |_::_,[],hl,_=>by simp at hl
structure SJ(c:jM)(s:iK)(ch:ji)(i:fT)(S:fH)(k p n0:Nat)(cc cf ct:T)(es:List T)(lo hi:Nat->Nat)(a b:T)(el:List T)(t:eG)(h:H):Prop where
 ok:ig 0 h
 z:p+1+1<=h.size
 n7:7<=n0
 np:n0<=p
 b0:h.get 0=some (dG 7 0 [c.t])
 b1:h.get 1=some (dG 7 2 [.agg [sl (S.em.map ed.t),dE S.tx,sl (S.done.map T.bool),sl (S.dK.map dN.t),cc,cf,ct]])
 b2:h.get 2=some (dG 2 0 [ch.t])
 b3:h.get 3=some (dG 7 0 [.agg [dF,dE 0,dF,dF,dF,dF,dF]])
 b4:h.get 4=some (dG 7 0 [.agg [dE 0,dE 0,dE 0,dE 0,dE 0,dF,dF]])
 bq:h.get (p+1)=some (dG 6 1 [i.t])
 gc:∃l,Gr h cc 1 (gF l)/\l.length=s.cells.length
 gf:∃l,Gr h cf 1 (gF l)/\l.length=s.eg.length
 bc:∀c,dS cc=some c->7<=c/\c<n0
 bf:∀c,dS cf=some c->7<=c/\c<n0/\dS cc≠some c
 gt:Gr h ct 4 es
 l:es.length=s.dK.length
 m:∀j,j<s.dK.length->n0<=lo j/\hi j<=p
 d:∀i j,i<j->j<s.dK.length->hi i<=lo j
 bt:∀c,dS ct=some c->n0<=c/\c<p/\∀j,j<s.dK.length->¬(lo j<=c/\c<hi j)
 o:∀(j:Nat) (e:T) (u:eG),j≠k->es[j]? =some e->s.dK[j]? =some u->FT h (λc=>lo j<=c/\c<hi j) 4 e u.t
 hk:k<s.dK.length
 ek:∃x y,es[k]? =some (.agg [dE x,a,b,dE y])
 tx:A3 7 h.size h a b el t
 xb:∀v,(v=a\/v=b\/v∈el)->∀c,dS v=some c->lo k<=c/\(c<hi k\/p+1<c)
section
variable {c:jM}{s:iK}{ch:ji}{i:fT}{S:fH}{k p n0:Nat}{cc cf ct:T}{es:List T}{lo hi:Nat->Nat}{a b:T}{el NH:List T}{t t':eG}{h h':H}
def SJ.gen(e:SJ c s ch i S k p n0 cc cf ct es lo hi a b el t h)(K:ig 0 h')(U:h.size<=h'.size)(u:∀c,c<h.size->c≠5->c≠p->dS cc≠some c->dS cf≠some c->dS a≠some c->dS b≠some c->h'.get c=h.get c)
 (D:∃r,Gr h' cc 1 (gF r)/\r.length=s.cells.length) (E:∃r,Gr h' cf 1 (gF r)/\r.length=s.eg.length) (L:A3 7 h'.size h' a b NH t') (N:∀w,(w=a\/w=b\/w∈NH)->∀c,dS w=some c->lo k<=c/\(c<hi k\/p+1<c)):
 SJ c s ch i S k p n0 cc cf ct es lo hi a b NH t' h':=by
 have V:=e.z;have I:=e.n7;have J:=e.np;have Q:=e.m k e.hk;have v:∀q,q<7->dS cc≠some q/\dS cf≠some q/\dS a≠some q/\dS b≠some q:=λq g=>⟨λf=>by have:=e.bc q f;omega,λf=>by have:=e.bf q f;omega,λf=>by have:=(e.tx.ba q f).1;omega,λf=>by have:=(e.tx.bb q f).1;omega⟩;have n:∀q,q<7->q≠5->h'.get q=h.get q:=λq g F=>u q dz F dz (v q g).1 (v q g).2.1 (v q g).2.2.1 (v q g).2.2.2;have j:∀q,dS a=some q\/dS b=some q->lo k<=q/\(q<hi k\/p+1<q):=λq f=>f.elim (λf=>e.xb a (.inl rfl) q f) λf=>e.xb b (.inr (.inl rfl)) q f;refine⟨K,dz,I,J,(n 0 dz dz).trans e.b0,(n 1 dz dz).trans e.b1,(n 2 dz dz).trans e.b2,(n 3 dz dz).trans e.b3,(n 4 dz dz).trans e.b4,?_,D,E,e.bc,e.bf,e.gt.mono λq f=> ?_,e.l,e.m,e.d,e.bt,λi C M x G A=> ?_,e.hk,e.ek,L,N⟩
 ·refine(u (p+1) dz dz dz (λf=> ?_) (λf=> ?_) (λf=> ?_) λf=> ?_).trans e.bq
  ·have:=e.bc _ f;omega
  ·have:=e.bf _ f;omega
  ·have:=j _ (.inl f);omega
  ·have:=j _ (.inr f);omega
 ·have B:=e.bt q f;have R:=B.2.2 k e.hk;refine u q dz dz dz (λf=> ?_) (λf=> ?_) (λf=> ?_) λf=> ?_
  ·have:=e.bc _ f;omega
  ·have:=e.bf _ f;omega
  ·have:=j _ (.inl f);omega
  ·have:=j _ (.inr f);omega
 ·have y:i<s.dK.length:=(List.getElem?_eq_some_iff.1 A).1;have P:=e.m i y;have O:hi i<=lo k\/hi k<=lo i:=by
   rcases Nat.lt_or_gt_of_ne x with q|q
   ·exact .inl (e.d i k q e.hk)
   ·exact .inr (e.d k i q y)
  refine(e.o i C M x G A).mono λq g=>⟨g,u q dz dz dz (λf=> ?_) (λf=> ?_) (λf=> ?_) λf=> ?_⟩
  ·have:=e.bc _ f;omega
  ·have:=e.bf _ f;omega
  ·have:=j _ (.inl f);omega
  ·have:=j _ (.inr f);omega
def SJ.mono(d:SJ c s ch i S k p n0 cc cf ct es lo hi a b el t h)(y:ig 0 h')(l:h.size<=h'.size)(g:∀c,c<h.size->c≠5->c≠p->h'.get c=h.get c):SJ c s ch i S k p n0 cc cf ct es lo hi a b el t h':=by
 have F:=d.z;have D:=d.n7;have E:=d.np;have C:=d.m k d.hk;obtain⟨l1,q,n⟩:=d.gc;obtain⟨l2,r,o⟩:=d.gf;refine d.gen y l (λc u v w _ _ _ _=>g c u v w) ⟨l1,q.mono λe f=> ?_,n⟩ ⟨l2,r.mono λe f=> ?_,o⟩ (d.tx.Lf (au _) l λB j e f=> ?_) d.xb
 ·have:=d.bc e f;exact g e dz dz dz
 ·have:=d.bf e f;exact g e dz dz dz
 ·have:=d.xb B j e f;have x:e<h.size:=by
   rcases j with rfl|rfl|j
   ·exact(d.tx.ba e f).2.1
   ·exact(d.tx.bb e f).2
   ·obtain⟨_,A⟩:=d.tx.el.left j;exact(A.2 e f).2.1
  exact g e x dz dz 
def SJ.cell(e:SJ c s ch i S k p n0 cc cf ct es lo hi a b el t h){f n q:Nat}{o:Bool}{u:List T}(v:dS cc=some f)(w:h.get f=some ⟨1,n,q,o,false,u⟩)(g:Nat)(j:Int):SJ c s ch i S k p n0 cc cf ct es lo hi a b el t (dY h f ⟨1,n,q+1,o,false,u.set g (dE j)⟩)/\∀d,d=5\/d=p->(dY h f ⟨1,n,q+1,o,false,u.set g (dE j)⟩).get d=h.get d:=by
 have I:=e.n7;have J:=e.np;have F:=e.bc f v;have G:=e.m k e.hk;obtain⟨l1,A,y⟩:=e.gc;obtain⟨l2,B,z⟩:=e.gf;have l:∀d,(dY h f ⟨1,n,q+1,o,false,u.set g (dE j)⟩).get d=if d=f then some ⟨1,n,q+1,o,false,u.set g (dE j)⟩else h.get d:=λd=>dP w _ d;refine⟨e.gen (e.ok.put _ _) (by rw[fU];exact au _) (λd _ _ _ C _ _ _=>(l d).trans (ao λr=>C (by rw[r];exact v))) ⟨l1.set g j,?_,by simpa using y⟩ ⟨l2,B.mono λd r=>(l d).trans (ao λx=>(e.bf d r).2.2 (by rw[x];exact v)),z⟩ (e.tx.Lf (au _) (by rw[fU];exact au _) λE D d r=>(l d).trans (ao λx=> ?_)) e.xb,λd hr=>(l d).trans (ao dz)⟩
 ·have:=A.setAt v w g (dE j) ((l f).trans (aq rfl));simpa[gF,bY]using this
 ·have:=e.xb E D d r;omega
def SJ.fut(e:SJ c s ch i S k p n0 cc cf ct es lo hi a b el t h){f n q:Nat}{o:Bool}{u:List T}(v:dS cf=some f)(w:h.get f=some ⟨1,n,q,o,false,u⟩)(g:Nat)(j:Int):SJ c s ch i S k p n0 cc cf ct es lo hi a b el t (dY h f ⟨1,n,q+1,o,false,u.set g (dE j)⟩)/\∀d,d=5\/d=p->(dY h f ⟨1,n,q+1,o,false,u.set g (dE j)⟩).get d=h.get d:=by
 have I:=e.n7;have J:=e.np;have y:=e.bf f v;have G:=e.m k e.hk;obtain⟨l1,B,z⟩:=e.gc;obtain⟨l2,C,A⟩:=e.gf;have l:∀d,(dY h f ⟨1,n,q+1,o,false,u.set g (dE j)⟩).get d=if d=f then some ⟨1,n,q+1,o,false,u.set g (dE j)⟩else h.get d:=λd=>dP w _ d;refine⟨e.gen (e.ok.put _ _) (by rw[fU];exact au _) (λd _ _ _ _ D _ _=>(l d).trans (ao λr=>D (by rw[r];exact v))) ⟨l1,B.mono λd r=>(l d).trans (ao λx=>y.2.2 (by rw[<-x];exact r)),z⟩ ⟨l2.set g j,?_,by simpa using A⟩ (e.tx.Lf (au _) (by rw[fU];exact au _) λF E d r=>(l d).trans (ao λx=> ?_)) e.xb,λd hr=>(l d).trans (ao dz)⟩
 ·have:=C.setAt v w g (dE j) ((l f).trans (aq rfl));simpa[gF,bY]using this
 ·have:=e.xb F E d r;omega
end
def vU{d k:Int}(h:mL d=k)(f:k≠0):(k=3->d=6\/d=7)/\(k=4->d=8\/d=9)/\(k=5->d=10)/\(k=22->d=26)/\(k=23->d=27):=by
 have g:6<=d/\d<=28:=by
  unfold mL at h;split at h
  ·exact absurd h.symm f
  ·omega
 have e:d=6\/d=7\/d=8\/d=9\/d=10\/d=11\/d=12\/d=13\/d=14\/d=15\/d=16\/d=17\/d=18\/d=19\/d=20\/d=21\/d=22\/d=23\/d=24\/d=25\/d=26\/d=27\/d=28:=dz;rcases e with rfl|rfl|rfl|rfl|rfl|rfl|rfl|rfl|rfl|rfl|rfl|rfl|rfl|rfl|rfl|rfl|rfl|rfl|rfl|rfl|rfl|rfl|rfl<;>simp[mL,wI]at h<;>omega
def IR(p:Nat)(d:fW):Prop:=dH d 3 (.ptr 0 0 0 0)/\dH d 4 (.ptr 1 0 0 0)/\dH d 5 (.ptr 2 0 0 0)/\dH d 6 (.ptr 3 0 0 0)/\dH d 7 (.ptr 4 0 0 0)/\dH d 9 (.ptr 5 0 0 0)/\dH d 14 (.ptr p 0 0 0)/\dH d 15 (.ptr (p+1) 0 0 0)
def Ev9(d:ez)(h:H):Prop:=∃e f,h.get 5=some (dG 7 f [ez.t ⟨d.dT,d.kind,d.obj,e,d.jk,d.mN,d.vh⟩])
def Th9(p:Nat)(a b:T)(e f:Int)(h:H):Prop:=∃d,h.get p=some (dG 4 d [.agg [dE e,a,b,dE f]])
def SJ.Mh{c:jM}{s:iK}{ch:ji}{i:fT}{S:fH}{k p n0:Nat}{cc cf ct:T}{es:List T}{lo hi:Nat->Nat}{a b:T}{el:List T}{t:eG}{h:H}(e:SJ c s ch i S k p n0 cc cf ct es lo hi a b el t h){u:iZ}(j:h.get 5=some u){l m:Int}(ht:Th9 p a b l m h)(d:ez)(f:Int)(g:Nat):
 SJ c s ch i S k p n0 cc cf ct es lo hi a b el t (dY h 5 (dG 7 g [ez.t ⟨d.dT,d.kind,d.obj,f,d.jk,d.mN,d.vh⟩]))/\Ev9 d (dY h 5 (dG 7 g [ez.t ⟨d.dT,d.kind,d.obj,f,d.jk,d.mN,d.vh⟩]))/\Th9 p a b l m (dY h 5 (dG 7 g [ez.t ⟨d.dT,d.kind,d.obj,f,d.jk,d.mN,d.vh⟩])):=by
 have v:=e.n7;have w:=e.np;obtain⟨r,o⟩:=ht;exact⟨e.mono (e.ok.put _ _) (by rw[fU];exact au _) λq _ n _=>(dP j _ q).trans (ao n),⟨f,g,(dP j _ 5).trans (aq rfl)⟩,⟨r,(dP j _ p).trans ((ao dz).trans o)⟩⟩
def ae0(p:Nat)(ct:T)(m:Int)(h:H):Prop:=∃j d e l g n,h.get p=some (dG 4 n [.agg [dE j,d,e,dE l]])/\d.il=true/\d.cells=[d]/\e.il=true/\e.cells=[e]/\iB (FT h (λf=>f<h.size/\f≠p/\7<=f/\dS ct≠some f) 3) [dE j,d,e,dE l] (eG.cs g)/\U6 1000000 g/\(g.dO=m+1\/g.dO=0)
def Hr:nO Tryz.prog cx 116 (λa:jM×iK×ji=>[a.1.t,a.2.1.t,a.2.2.t]) (λa=>(∀x∈a.1.dK,x.jl.length<=10000001)/\StI a.2.1/\WE 999000 a.2.1) (λa=>ZU a.2.1):=by
 refine jt (tb:=⟨pt [(149,Aa.jv),(107,tj)],ht [(163,jw iK VL OL),(164,jw XE Om Cf)]⟩) fa eQ (iR 12259964349774246101165194645239424850975965214878597119 [(41,[(1,2)])] Tryz.func116) (λ_=>100) (λa b h=>by simp at h;exact aR (jM.inj h.1) (aR (iK.inj h.2.1) (ji.inj h.2.2))) dA (by simp[Tryz.f116]) ?_;rintro⟨c,s,ch⟩ ⟨gd,I,fY⟩ bk hd;simp only at gd I fY;simp at hd;obtain⟨j0,al,an⟩:=hd;have k3:ZQ 1000000 s:=λt ht l hl=>((I.t t ht).tn l hl).1;obtain⟨_,⟨u,hG,rfl,kB,hs⟩,gP⟩:=Aa.use (c,s,ch.dT) ⟨gd,k3⟩;simp only at gP hs;have hq:ZU s (.tuple [iK.t ⟨⟨[],0,[],[]⟩,[],[],[]⟩,ez.t ⟨0,0,0,0,0,[],[]⟩,.bool false]):=⟨_,_,_,rfl,⟨dA,dA⟩,dA⟩;simp[Tryz.f116,j0,al,an,gP];cases hG with
 |false=>
  simp;exact hq
 |true=>
 obtain⟨t,x,i,X⟩:=hs rfl;obtain⟨pu,pD⟩:=Im X.f.v;have k2:NW s.fM:=⟨by have:=I.l;omega,by have:=I.l;omega,by have:=I.l;omega,λl hl=>by have:=I.r.len I.a l hl;omega,I.a⟩;have gI:rl Tryz.prog cx ⟨pt [(149,Aa.jv),(107,tj)],ht [(163,jw iK VL OL),(164,jw XE Om Cf)]⟩ 107 [c.fj.t,s.fM.t,dE ch.dT,dE u.kind,dE u.obj,dE ch.Fb]=some (yc (c.fj,s.fM,ch.dT,u.kind,u.obj,ch.Fb)):=
  im dA EH (c.fj,s.fM,ch.dT,u.kind,u.obj,ch.Fb) ⟨dC,k2⟩
 cases fS:jR c.fj s.fM ch.dT u.kind u.obj with
 |false=>
  simp[gI,yc,fS];exact hq
 |true=>
 simp[gI,yc,fS];generalize kg:ff c.fj s.fM ch.dT u.kind u.obj ch.Fb=hY at*
 obtain⟨S,U⟩:=hY;simp;have hl:=I.l;generalize bz:H.cons _ _=bH;have hF:ig 0 bH:=by rw[<-bz];exact⟨dA,dA,dA⟩
 have m4:bH.size=7:=by rw[<-bz];rfl
 have mq:bH.get 0=some (dG 7 0 [c.t]):=by rw[<-bz];simp
 have mx:bH.get 1=some (dG 7 0 [s.t]):=by rw[<-bz];simp
 have mA:bH.get 2=some (dG 2 0 [ch.t]):=by rw[<-bz];simp
 have mC:bH.get 3=some (dG 7 0 [.agg [dF,dE 0,dF,dF,dF,dF,dF]]):=by rw[<-bz];simp
 have m0:bH.get 4=some (dG 7 0 [.agg [dE 0,dE 0,dE 0,dE 0,dE 0,dF,dF]]):=by rw[<-bz];simp
 have m1:bH.get 5=some (dG 7 1 [u.t]):=by rw[<-bz];simp
 have m2:bH.get 6=some (dG 4 1 [S.t]):=by rw[<-bz];simp
 clear bz;refine iq Pt dA s ⟨rfl,hF,⟨rfl,hF,dz,dz,dz,λl q=>by have:=I.r.len I.a l q;omega⟩,dz,dz,dz,λR dn=>⟨by have:=(I.t R dn).rl;omega,by have:=(I.t R dn).tl;omega,λl q=>((I.t R dn).tn l q).1⟩⟩ ?_;rintro _ cX ⟨nr,nu,nv,cc,cf,ct,es,lo,hi,n0,rfl,F⟩;have m3:=F.nb.ok.sz;have hV:=F.z;rw[m4]at m3 hV;have a1:=(F.nb.get 1 dz).trans mx;have hX:=(F.nb.get 6 dz).trans m2;have a2:=(F.nb.get 2 dz).trans mA;have a0:=(F.nb.get 0 dz).trans mq;obtain⟨eE,nF,eF,cp,cL,nX⟩:=F.k0;have p1:∀y,(dY cX 1 y).get 1=some y:=λy=>(dP a1 y _).trans (aq rfl);have p6:∀y,(dY cX 1 y).get 6=cX.get 6:=λy=>(dP a1 y _).trans (ao dz);simp[a1,dZ,p1,p6,hX];generalize eo:dY (dY cX 1 _) 1 _=B;have pE:B.size=cX.size:=by rw[<-eo];simp
 have lc:ig 0 cX:=⟨F.nb.ok.hp,F.nb.ok.low,aw _⟩;have okB:ig 0 B:=by rw[<-eo];exact(lc.put _ _).put _ _
 have hJ:=(show B.get 1=some (dG 7 2 [.agg [sl (S.em.map ed.t),dE S.tx,sl (S.done.map T.bool),sl (S.dK.map dN.t),cc,cf,ct]])by rw[<-eo];exact(dP (p1 _) _ _).trans (aq rfl));have ca:∀k,k≠1->B.get k=cX.get k:=λk bN=>by rw[<-eo,dP (p1 _),ao bN,dP a1,ao bN]
 clear eo p1 p6;have hI:=(ca 0 dz).trans a0;have hK:=(ca 2 dz).trans a2;have lC:=(ca 5 dz).trans ((F.nb.get 5 dz).trans m1);have lw:=(ca 3 dz).trans ((F.nb.get 3 dz).trans mC);have lB:=(ca 4 dz).trans ((F.nb.get 4 dz).trans m0);have L:=F.th.mono (h':=B) dz λk bN _=>ca k dz;have bN:=X.n;rw[<-X.f.th]at bN;obtain⟨eV,W⟩:=fq.1 bN;have b9:=X.ht;have fL:∃gQ,es[ch.dT.toNat]? =some gQ:=⟨_,az (by rw[L.l];exact W)⟩;obtain⟨gQ,eO⟩:=fL;obtain⟨a,b,el,rfl,e6⟩:=L.e _ _ _ eO b9;obtain⟨E,gS,hR,ext,hS,t1,t2,t3,t4⟩:=L.g.JS (te:=KM) rfl (i:=ch.dT.toNat) (by rw[L.l];exact W);rw[show es[ch.dT.toNat]'(by rw[L.l];exact W)=Bn t a b by rw[az (by rw[L.l];exact W)]at eO;simpa using eO]at t4;have h5:=okB.low;have m5:∀k,k<7->(k=B.size)=False:=λk bN=>by simp;omega
 have qo:∀k,k<7->(k=B.size+1)=False:=λk bN=>by simp;omega
 have av:=X.hx;have ho:=X.hi;obtain⟨lu,o5,pa,pc⟩:=X.f.t _ _ _ b9 av;have lR:=eK lu;simp[hI,hJ,hK,t2,t3,t4,Bn,h5,eK eV,m5,av,ho,lR];have oW:B.size<B.size+1:=dz;generalize dm:dY ((B.cons _).cons _) (B.size+1) _=a7;have qa:a7.size=B.size+1+1:=by rw[<-dm,fU];rfl
 have lg:ig 0 a7:=by rw[<-dm];exact((okB.cons _).cons _).put _ _
 have hO:a7.get B.size=some (dG 4 1 [.agg [dE t.pC,a,b,dE t.dO]]):=by rw[<-dm,mM ((okB.cons _).cons _).hp (by show _<B.size+1+1;omega),ao dz,dV,ao (by show¬_=B.size+1;omega),dV,aq rfl]
 have lE:a7.get (B.size+1)=some (dG 6 1 [i.t]):=by rw[<-dm,mM ((okB.cons _).cons _).hp (by show _<B.size+1+1;omega),aq rfl]
 have hN:∀k,k<B.size->a7.get k=B.get k:=λk bN=>by
  rw[<-dm,mM ((okB.cons _).cons _).hp (by show _<B.size+1+1;omega),ao dz,dV,ao (by show¬_=B.size+1;omega),dV,ao dz]
 clear dm;have r5:=(hN 5 dz).trans lC;have ii:∀y,(dY a7 5 y).get 5=some y:=λy=>(dP r5 y _).trans (aq rfl);simp[hO,r5,ou,ii];have lp:ig 0 (dY a7 5 (dG 7 2 [ez.t ⟨u.dT,u.kind,u.obj,U,u.jk,u.mN,u.vh⟩])):=lg.put _ _;have eI:∀k,(dY a7 5 (dG 7 2 [ez.t ⟨u.dT,u.kind,u.obj,U,u.jk,u.mN,u.vh⟩])).get k=_:=λk=>dP r5 _ k;have qi:(dY a7 5 (dG 7 2 [ez.t ⟨u.dT,u.kind,u.obj,U,u.jk,u.mN,u.vh⟩])).size=a7.size:=fU ..;generalize dY a7 5 (dG 7 2 [ez.t ⟨u.dT,u.kind,u.obj,U,u.jk,u.mN,u.vh⟩])=a8 at*
 have oi:ch.dT.toNat<s.dK.length:=W;obtain⟨pb,ps,o0,_,gv,gw,_,gy,_,_,hQ,_⟩:=HX X.f X.n;rw[b9]at gv;rw[av]at gw;simp only[ar]at gv gw;subst gv;subst gw;rw[ho]at gy;simp only[ar]at gy;subst gy;have et:∀K:Int,u.kind=K->K≠1->K≠17->K≠0->mL i.op=K:=λK al an a6 b8=>by
  rcases X.k with q|q|q
  ·omega
  ·omega
  ·omega
 have fX:=fS;unfold jR at fX;simp only[aB]at fX;have eS:=fX.1.2;have hj:u.kind=3\/u.kind=4->je u.obj s.cells.length=true:=λq=>by
  rw[X.f.cl];unfold jQ at eS;rcases q with q|q<;>simpa[q]using eS
 have hn:u.kind=22\/u.kind=23->je u.obj s.eg.length=true:=λq=>by
  rw[X.f.fu];unfold jQ at eS;rcases q with q|q<;>simpa[q]using eS
 have hL:u.kind=3\/u.kind=23\/u.kind=5->0<=i.a/\i.a<x.iT:=λq=>by
  refine hQ _ ?_;unfold iV;rcases q with q|q|q
  ·rcases(vU (et 3 q dz dz dz) dz).1 rfl with k|k<;>simp[k]
  ·simp[(vU (et 23 q dz dz dz) dz).2.2.2.2 rfl]
  ·simp[(vU (et 5 q dz dz dz) dz).2.2.1 rfl]
 have hM:u.kind=4\/u.kind=22->0<=i.b/\i.b<x.iT:=λq=>by
  refine hQ _ ?_;unfold iV;rcases q with q|q
  ·rcases(vU (et 4 q dz dz dz) dz).2.1 rfl with k|k<;>simp[k]
  ·simp[(vU (et 22 q dz dz dz) dz).2.2.2.1 rfl]
 have M:SJ c s ch i S ch.dT.toNat B.size n0 cc cf ct es lo hi a b el t a8:=by
  have bB:∀k,k<B.size->k≠5->a8.get k=B.get k:=λk al an=>(eI k).trans ((ao an).trans (hN k al));have o1:=L.m _ W;have la:n0<=B.size:=by have:=F.zn;omega
  refine⟨lp,dz,hV,la,(bB 0 dz dz).trans hI,(bB 1 dz dz).trans hJ,(bB 2 dz dz).trans hK,(bB 3 dz dz).trans lw,(bB 4 dz dz).trans lB,?_,
   ⟨_,F.gc.mono λq x=> ?_,dA⟩,⟨_,F.gf.mono λq x=> ?_,dA⟩,λq x=> ?_,λq x=> ?_,L.g.mono λq x=> ?_,L.l,L.m,L.d,λq x=> ?_,λj u R eP fL dn=> ?_,W,⟨_,_,eO⟩,e6.Lf dz dz λv eU q x=> ?_,λv eU q x=> ?_⟩
  ·exact(eI _).trans ((ao dz).trans lE)
  ·have:=F.bc q x;exact(bB q dz dz).trans (ca q dz)
  ·have:=F.bf q x;exact(bB q dz dz).trans (ca q dz)
  ·have:=F.bc q x;omega
  ·have:=F.bf q x;exact⟨dz,this.2.1,this.2.2⟩
  ·obtain⟨_,_,_,_,g,_⟩:=L.g.box x;have:=(L.c q x).1;exact bB q (H.ew g) dz
  ·obtain⟨_,_,_,_,g,_⟩:=L.g.box x;exact⟨(L.c q x).1,H.ew g,(L.c q x).2⟩
  ·obtain⟨e9,fb,NH,rfl,lS⟩:=L.e j u R fL dn;have k7:=L.m j (List.getElem?_eq_some_iff.1 dn).1;exact .inr (.inr ⟨_,_,rfl,(lS.mono (h':=a8) (au _) (au _) λq al an=>bB q dz dz).fz _ λq al an=>⟨al,an⟩,rfl⟩)
  all_goals
   have hg:lo ch.dT.toNat<=q/\q<hi ch.dT.toNat:=by
    rcases eU with rfl|rfl|eU
    ·have:=e6.ba q x;omega
    ·exact e6.bb q x
    ·obtain⟨_,w⟩:=e6.el.left eU;have:=w.2 q x;exact⟨this.1,this.2.1⟩
  ·exact bB q dz dz
  ·exact⟨hg.1,.inl hg.2⟩
 refine Rt (λbk h=>IR B.size bk/\(∃n,dH bk 16 (dE n))/\SJ c s ch i S ch.dT.toNat B.size n0 cc cf ct es lo hi a b el t h/\Ev9 u h/\Th9 B.size a b t.pC t.dO h) ?_ ?_
 ·have Q:=(eI 5).trans (aq rfl);have dk:=(eI B.size).trans ((ao dz).trans hO);have eC:Ev9 u a8:=⟨U,2,Q⟩;have bT:Th9 B.size a b t.pC t.dO a8:=⟨1,dk⟩;cases nw:decide (u.kind=1)with
  |true=>
   simp[dk,IR];exact⟨M,eC,bT⟩
  |false=>
  cases b6:decide (u.kind=16)with
  |true=>
   simp[b6,dk,IR];exact⟨M,eC,bT⟩
  |false=>
  cases cb:decide (u.kind=2)with
  |true=>
   simp[b6,cb,dk,IR];exact⟨M,eC,bT⟩
  |false=>
  cases ce:decide (u.kind=3)with
  |true=>
   obtain⟨l1,bC,bS⟩:=M.gc;have bi:=fq.1 (hj (.inl (by simpa using ce)));obtain⟨p1,P,bn⟩:=(show oG a8 1 cc (gF l1)from .inr bC).idx (te:=GR) rfl rfl (i:=u.obj.toNat) (x:= dE l1[u.obj.toNat]) (by simp[bS,bi.2]) rfl;simp[b6,cb,ce,Q,M.b1,eK bi.1,P,bn,IR];exact M.Mh Q bT u _ _
  |false=>
  cases de:decide (u.kind=23)with
  |true=>
   obtain⟨l1,bC,bS⟩:=M.gf;have bi:=fq.1 (hn (.inr (by simpa using de)));obtain⟨p1,P,bn⟩:=(show oG a8 1 cf (gF l1)from .inr bC).idx (te:=GR) rfl rfl (i:=u.obj.toNat) (x:= dE l1[u.obj.toNat]) (by simp[bS,bi.2]) rfl;simp[b6,cb,ce,de,Q,M.b1,eK bi.1,P,bn,IR];exact M.Mh Q bT u _ _
  |false=>
  have fo:oG a8 1 a (gF t.iT):= .inr M.tx.ga;have e5:∀x y:Int,mr (dE x) 0 [dE y]=some (dE y):=λx y=>rfl;cases di:decide (u.kind=4)with
  |true=>
   have gp:=hM (.inl (by simpa using di));have bi:=fq.1 (hj (.inr (by simpa using di)));obtain⟨p1,P,bn⟩:=fo.idx (te:=GR) rfl rfl (i:=i.b.toNat) (x:= dE t.iT[i.b.toNat]) (by simp[show i.b.toNat<t.iT.length by omega]) rfl;obtain⟨aA,aE,t5⟩:=M.Mh Q bT u t.iT[i.b.toNat] 3;have cL:=(dP Q (dG 7 3 [ez.t ⟨u.dT,u.kind,u.obj,t.iT[i.b.toNat],u.jk,u.mN,u.vh⟩]) 5).trans (aq rfl);simp[b6,cb,ce,de,di,Q,dk,M.bq,eK gp.1,P,bn,IR];generalize dY a8 5 (dG 7 3 [ez.t ⟨u.dT,u.kind,u.obj,t.iT[i.b.toNat],u.jk,u.mN,u.vh⟩])=ap at*
   obtain⟨l1,bC,bS⟩:=aA.gc;obtain⟨q,ae,l7,gV,mi,gk,gm,ey,eA⟩:=bC.JS (te:=GR) rfl (i:=u.obj.toNat) (by simpa[bS]using bi.2);simp at eA;obtain⟨gj,ef⟩:=aA.cell gk ey u.obj.toNat t.iT[i.b.toNat];simp[aA.b1,cL,eK bi.1,gm,ey,eA,e5];obtain⟨gB,gE,gi⟩:=aE;obtain⟨dv,c6⟩:=t5;exact⟨gj,⟨gB,gE,(ef 5 (.inl rfl)).trans gi⟩,dv,(ef _ (.inr rfl)).trans c6⟩
  |false=>
  cases eb:decide (u.kind=22)with
  |true=>
   have gp:=hM (.inr (by simpa using eb));have bi:=fq.1 (hn (.inl (by simpa using eb)));obtain⟨p1,P,bn⟩:=fo.idx (te:=GR) rfl rfl (i:=i.b.toNat) (x:= dE t.iT[i.b.toNat]) (by simp[show i.b.toNat<t.iT.length by omega]) rfl;obtain⟨aA,aE,t5⟩:=M.Mh Q bT u t.iT[i.b.toNat] 3;have cL:=(dP Q (dG 7 3 [ez.t ⟨u.dT,u.kind,u.obj,t.iT[i.b.toNat],u.jk,u.mN,u.vh⟩]) 5).trans (aq rfl);simp[b6,cb,ce,de,di,eb,Q,dk,M.bq,eK gp.1,P,bn,IR];generalize dY a8 5 (dG 7 3 [ez.t ⟨u.dT,u.kind,u.obj,t.iT[i.b.toNat],u.jk,u.mN,u.vh⟩])=ap at*
   obtain⟨l1,bC,bS⟩:=aA.gf;obtain⟨q,ae,l7,gV,mi,gk,gm,ey,eA⟩:=bC.JS (te:=GR) rfl (i:=u.obj.toNat) (by simpa[bS]using bi.2);simp at eA;obtain⟨gj,ef⟩:=aA.fut gk ey u.obj.toNat t.iT[i.b.toNat];simp[aA.b1,cL,eK bi.1,gm,ey,eA,e5];obtain⟨gB,gE,gi⟩:=aE;obtain⟨dv,c6⟩:=t5;exact⟨gj,⟨gB,gE,(ef 5 (.inl rfl)).trans gi⟩,dv,(ef _ (.inr rfl)).trans c6⟩
  |false=>
  cases fi:decide (u.kind=5)with
  |false=>
   simp[b6,cb,ce,de,di,eb,fi,IR];exact⟨M,eC,bT⟩
  |true=>
   have e4:=hL (.inr (.inr (by simpa using fi)));obtain⟨p1,P,bn⟩:=fo.idx (te:=GR) rfl rfl (i:=i.a.toNat) (x:= dE t.iT[i.a.toNat]) (by simp[show i.a.toNat<t.iT.length by omega]) rfl;obtain⟨aA,aE,t5⟩:=M.Mh Q bT u 1 3;have cL:=(dP Q (dG 7 3 [ez.t ⟨u.dT,u.kind,u.obj,1,u.jk,u.mN,u.vh⟩]) 5).trans (aq rfl);simp[b6,cb,ce,de,di,eb,fi,Q,IR];generalize dY a8 5 (dG 7 3 [ez.t ⟨u.dT,u.kind,u.obj,1,u.jk,u.mN,u.vh⟩])=ap at*
   obtain⟨p1,P,bn⟩:=(show oG ap 1 a (gF t.iT)from .inr aA.tx.ga).idx (te:=GR) rfl rfl (i:=i.a.toNat) (x:= dE t.iT[i.a.toNat]) (by simp[show i.a.toNat<t.iT.length by omega]) rfl;obtain⟨dv,c6⟩:=t5;obtain⟨hy,lX,t6⟩:=aA.Mh cL ⟨dv,c6⟩ u 0 4;have h4:=hy.bq;simp[c6,aA.bq,eK e4.1,P,bn];refine ee (λq=> ?_) (λq=> ?_)
   ·simp[cL,h4];exact⟨hy,lX,t6⟩
   ·simp;exact⟨aA,aE,dv,c6⟩
 ·rintro bk h ⟨⟨a6,b8,ap,bp,bs,bu,aX,b7⟩,⟨c7,eM⟩,A,⟨v,aE,aN⟩,bX,ae⟩;simp[bu,aN];have o4:=A.ok;refine ll (λbk h=>IR B.size bk/\(∃n,dH bk 16 (dE n))/\∃NH t',t'.pC=t.pC/\t'.dO=t.dO/\U6 1000000 t'/\SJ c s ch i S ch.dT.toNat B.size n0 cc cf ct es lo hi a b NH t' h/\Ev9 u h/\Th9 B.size a b t.pC t.dO h) (λG=> ?_) (λG=> ?_) ?_
  ·have e4:=hL (by simpa[or_assoc]using(by simpa using G:u.kind=3\/u.kind=23).elim .inl λq=> .inr (.inl q));have oj:el.length=t.j8.length:=A.tx.el.length;have j5:i.a.toNat<t.iT.length:=dz;have j6:i.a.toNat<el.length:=dz;obtain⟨Y,ia,l9,ib,mj,er,kb,fC,hf⟩:=A.tx.ga.JS (te:=GR) rfl (i:=i.a.toNat) (by simpa using j5);simp at hf;have e5:∀x y:Int,mr (dE x) 0 [dE y]=some (dE y):=λx y=>rfl;have k9:=A.n7;have o3:=A.np;have oV:=A.z;have hh:=A.tx.ba Y er;have oC:=A.xb a (.inl rfl) Y er;have ov:=A.m _ A.hk;simp[bu,aX,b7,ae,aN,A.bq,eK e4.1,kb,fC,hf,e5];generalize k6:iZ.mk 1 ia (l9+1) ib false (mj.set i.a.toNat (dE v))=c9 at*
   have ea:∀w,(dY h Y c9).get w=if w=Y then some c9 else h.get w:=λw=>dP fC c9 w;have lb:ig 0 (dY h Y c9):=A.ok.put _ _;have px:(dY h Y c9).size=h.size:=fU ..;have h6:=(ea B.size).trans ((ao dz).trans ae);have h7:=(ea (B.size+1)).trans ((ao dz).trans A.bq);have nB:=(ea 5).trans ((ao dz).trans aN);generalize od:dY h Y c9=J at*
   have eL:Gr J b 1 el:=A.tx.gb.mono λw hr=>(ea w).trans (ao λx=>hh.2.2 (by rw[<-x];exact hr));obtain⟨Z,ec,e7,eD,e8,c1,kk,eN,fE⟩:=(eL.mono (h':=J.cons (dG 1 0 [dE t.dO])) λw hr=>by rw[dV,ao (by have:=(A.tx.bb w hr).2;omega)]).JS (te:=nH) rfl (i:=i.a.toNat) j6;obtain⟨nA,kp,lD⟩:=A.tx.el.get (az (show i.a.toNat<t.j8.length by omega));have lG:=BZ (x:= .arr J.size 0 0 1 false) lD.1.na;replace fE:=fE.trans ((az _).symm.trans kp);have kn:b= .arr Z ec 0 el.length false:=by
    obtain⟨_,_,_,_,q,u⟩:=(eL.mono (h':=J.cons (dG 1 0 [dE t.dO])) λw hr=>by rw[dV,ao (by have:=(A.tx.bb w hr).2;omega)]).box c1;rw[eN]at q;simp at q;rw[u,q.1]
   simp[aX,b7,eM,h6,h7,eK e4.1,kk,eN,fE,lG];have n8:=A.tx.bb Z c1;have oT:=A.xb b (.inr (.inl rfl)) Z c1;have kd:Y≠Z:=λq=>hh.2.2 (by rw[q];exact c1);have lh:ig 0 (dY (J.cons (dG 1 0 [dE t.dO])) Z ⟨1,ec,e7+1,eD,false,e8.set i.a.toNat (.arr J.size 0 0 1 false)⟩):=(lb.cons _).put _ _;have qe:(dY (J.cons (dG 1 0 [dE t.dO])) Z ⟨1,ec,e7+1,eD,false,e8.set i.a.toNat (.arr J.size 0 0 1 false)⟩).size=h.size+1:=by rw[fU];show J.size+1=_;omega
   have eB:∀w,(dY (J.cons (dG 1 0 [dE t.dO])) Z ⟨1,ec,e7+1,eD,false,e8.set i.a.toNat (.arr J.size 0 0 1 false)⟩).get w=if w=Z then some ⟨1,ec,e7+1,eD,false,e8.set i.a.toNat (.arr J.size 0 0 1 false)⟩else if w=J.size then some (dG 1 0 [dE t.dO])else if w=Y then some c9 else h.get w:=λw=>(dP eN _ w).trans (by rw[dV,ea]);generalize dY (J.cons _) Z _=fA at*
   have jC:=(eL.mono (h':=J.cons (dG 1 0 [dE t.dO])) λw hr=>by rw[dV,ao (by have:=(A.tx.bb w hr).2;omega)]).setAt c1 eN i.a.toNat (.arr J.size 0 0 1 false) (h':=fA) ((eB Z).trans (aq rfl));have jj:=A.tx.ga.setAt er fC i.a.toNat (dE v) (h':=fA) ((eB Y).trans ((ao kd).trans ((ao dz).trans ((aq rfl).trans (by rw[k6])))));have dd:∀w,w<h.size->w≠Y->w≠Z->fA.get w=h.get w:=λw al an a6=>(eB w).trans ((ao a6).trans ((ao dz).trans (ao an)));have h8:∀w,dS a=some w->w=Y:=λw hr=>by rw[er]at hr;simpa using hr.symm
   have h9:∀w,dS b=some w->w=Z:=λw hr=>by rw[c1]at hr;simpa using hr.symm
   have n9:=fY t (ax b9);have gg:=I.t t (ax b9);have e0:∀w,dS a≠some w->dS b≠some w->w≠Y/\w≠Z:=λw al an=>⟨λx=>al (by rw[x];exact er),λx=>an (by rw[x];exact c1)⟩;refine⟨by simp[IR,a6,b8,ap,bp,bs,bu,aX,b7],el.set i.a.toNat (.arr J.size 0 0 1 false),⟨t.pC,t.iT.set i.a.toNat v,t.j8.set i.a.toNat [t.dO],t.dO⟩,rfl,rfl,⟨by simpa using gg.rl,by simpa using gg.tl,λl hl=> ?_⟩,
    A.gen lh dz (λw al an a6 _ _ bp bs=>dd w al (e0 w bp bs).1 (e0 w bp bs).2) ?_ ?_ ⟨by simpa[gF,bY]using jj,jC,A.tx.el.set i.a.toNat ⟨.inr ?_,λw hr=> ?_⟩ λu l q=>⟨q.1.mono λw hr=> ?_,λw hr=> ?_⟩,λw hr=> ?_,λw hr=> ?_⟩ λU hw w hr=> ?_,⟨v,aE,(dd 5 dz dz dz).trans aN⟩,bX,(dd _ dz dz dz).trans ae⟩
   ·rcases cg hl with q|rfl
    ·exact gg.tn l q
    ·exact⟨dA,λx av=>by simp at av;subst av;omega⟩
   ·obtain⟨l1,eE,P⟩:=A.gc;exact⟨l1,eE.mono λw hr=>by have:=A.bc w hr;exact dd w dz dz dz,P⟩
   ·obtain⟨l1,eE,P⟩:=A.gf;exact⟨l1,eE.mono λw hr=>by have:=A.bf w hr;exact dd w dz dz dz,P⟩
   ·have:=Gr.new ((eB J.size).trans ((ao dz).trans (aq rfl)));simpa using this
   ·simp at hr;subst hr;exact⟨dz,dz,λq=>by have:=h8 _ q;omega,λq=>by have:=h9 _ q;omega⟩
   ·obtain⟨W,hA,eW,eX⟩:=q.2 w hr;exact dd w hA (e0 w eW eX).1 (e0 w eW eX).2
   ·obtain⟨W,hA,eW,eX⟩:=q.2 w hr;exact⟨W,dz,eW,eX⟩
   ·have:=A.tx.ba w hr;exact⟨this.1,dz,this.2.2⟩
   ·have:=A.tx.bb w hr;exact⟨this.1,dz⟩
   ·rcases hw with rfl|rfl|hw
    ·exact A.xb _ (.inl rfl) w hr
    ·exact A.xb _ (.inr (.inl rfl)) w hr
    ·rcases cg hw with q|rfl
     ·exact A.xb U (.inr (.inr q)) w hr
     ·simp at hr;subst hr;omega
  ·simp[IR,a6,b8,ap,bp,bs,bu,aX,b7,eM];exact⟨el,t,rfl,rfl,I.t _ (ax b9),A,⟨v,aE,aN⟩,bX,ae⟩
  rintro bk h ⟨⟨a6,b8,ap,bp,bs,bu,aX,b7⟩,⟨c7,eM⟩,NH,t',oA,oB,ds,A,⟨v,aE,aN⟩,bX,ae⟩;have eh:∀y,(dY h B.size y).get B.size=some y:=λy=>(dP ae y _).trans (aq rfl);have ha:∀y,∀q,q<7->(dY h B.size y).get q=h.get q:=λy q G=>(dP ae y _).trans (ao dz);have gZ:∀y C,(dY (dY h B.size y) B.size C).get B.size=some C:=λy C=>(dP (eh y) C _).trans (aq rfl);have fv:∀y C,∀q,q<7->(dY (dY h B.size y) B.size C).get q=h.get q:=λy C q G=>(dP (eh y) C _).trans ((ao dz).trans (ha y q G));simp[bu,aX,eM,aN,ae,ou,dZ,eh,fv];have kn:=fY t (ax b9);have k5:IntKind.i64.wrap (t.dO+1)=t.dO+1:=by rw[<-jF,jI dz dz]
  rw[k5];have Pr:ig 0 (dY (dY h B.size (dG 4 (bX+1) [.agg [dE t.pC,a,b,dE (t.dO+1)]])) B.size ⟨4,0,bX+1+1,true,false,[.agg [dE c7,a,b,dE (t.dO+1)]]⟩):=(A.ok.put _ _).put _ _;have D:=A.mono Pr (by rw[fU,fU];exact au _) λq _ _ G=>by rw[dP (eh _),ao G,dP ae,ao G]
  have gM:=(fv (dG 4 (bX+1) [.agg [dE t.pC,a,b,dE (t.dO+1)]]) ⟨4,0,bX+1+1,true,false,[.agg [dE c7,a,b,dE (t.dO+1)]]⟩ 5 dz).trans aN;have gn:=gZ (dG 4 (bX+1) [.agg [dE t.pC,a,b,dE (t.dO+1)]]) ⟨4,0,bX+1+1,true,false,[.agg [dE c7,a,b,dE (t.dO+1)]]⟩;generalize dY (dY h B.size _) B.size _=hb at*
  clear eh ha gZ fv A ae aN;refine ll (λbk h=>IR B.size bk/\SJ c s ch i S ch.dT.toNat B.size n0 cc cf ct es lo hi a b NH t' h/\Ev9 u h/\ae0 B.size ct t.dO h) (λG=> ?_) (λG=> ?_) ?_
  ·have k4:=ax av;simp[a6,ap,aX,D.b0,D.b2,eK eV,av,gn];refine iq OX dA ⟨x,⟨c7,t'.iT,t'.j8,t.dO+1⟩,a,b,NH,7,hb.size,1000000⟩ ⟨rfl,D.tx.same rfl rfl,au _,Pr,⟨ds.rl,ds.tl,ds.tn⟩,au _,gd x k4⟩ ?_;rintro _ hE ⟨R,hG,rfl,gz,hP,qc,fl,hD⟩;have qb:=D.z;have hH:=(fl B.size dz).trans gn;have fs:∀y,∀q,(dY hE B.size y).get q=if q=B.size then some y else hE.get q:=λy q=>dP hH y q;simp[IR,a6,b8,ap,bp,bs,bu,aX,b7,hH,dZ];have hW:=D.mono (h':=hE) hD dz λq G _ _=>fl q G;refine⟨hW.mono (hD.put _ _) (by rw[fU];exact au _) λq _ _ G=>(fs _ q).trans (ao G),⟨v,aE,(fs _ 5).trans ((ao dz).trans ((fl 5 dz).trans gM))⟩,R.pC,sl (gF R.iT),sl (R.j8.map ZR),R.dO,R,_,(fs _ _).trans (aq rfl),dA,dA,dA,dA,?_,gz,hP⟩;exact .cons (fQ ..) (.cons (pj _ _ _ λx av=>(HW _ x av).1) (.cons (pj _ _ _ λx av=>by obtain⟨l,_,rfl⟩:=List.mem_map.1 av;simp[ZR]) (.cons (fQ ..) .nil)))
  ·simp[IR,a6,b8,ap,bp,bs,bu,aX,b7];refine⟨D,⟨v,aE,gM⟩,_,_,_,_,⟨c7,t'.iT,t'.j8,t.dO+1⟩,_,gn,D.tx.ga.il,D.tx.ga.cells,D.tx.gb.il,D.tx.gb.cells,(D.tx.same (s':=⟨c7,t'.iT,t'.j8,t.dO+1⟩) rfl rfl).fzB _ λU hw q x=> ?_,⟨ds.rl,ds.tl,ds.tn⟩,.inl rfl⟩;have pe:=D.xb U hw q x;have pm:=D.m _ D.hk;have pn:=D.n7;have mb:q<hb.size:=by
    rcases hw with rfl|rfl|hw
    ·exact(D.tx.ba q x).2.1
    ·exact(D.tx.bb q x).2
    ·obtain⟨_,w⟩:=D.tx.el.left hw;exact(w.2 q x).2.1
   exact⟨mb,dz,dz,λy=>by have:=D.bt q y;have:=this.2.2 _ D.hk;omega⟩
  rintro bk h ⟨⟨a6,b8,ap,bp,bs,bu,aX,b7⟩,A,⟨v,aE,aN⟩,hB,e9,fb,hC,R,pd,lv,n1,n2,eL,n5,lW,gz,hP⟩;obtain⟨E,gS,hR,ext,hS,t1,t2,t3,t4⟩:=A.gt.JS (te:=KM) rfl (i:=ch.dT.toNat) (by rw[A.l];exact W);obtain⟨gV,nE,kD⟩:=A.ek;replace t4:=t4.trans ((az _).symm.trans kD);have nn:=A.bt E t1;obtain⟨l1,bC,bS⟩:=A.gc;obtain⟨l2,jZ,k1⟩:=A.gf;generalize hv:iZ.mk 4 gS (hR+1) ext false (hS.set ch.dT.toNat (.agg [dE hB,e9,fb,dE hC]))=O;have gX:∀q,(dY h E O).get q=if q=E then some O else h.get q:=λq=>dP t3 O q;have eH:∀q,q<7->(dY h E O).get q=h.get q:=λq G=>(gX q).trans (ao dz);have hZ:=(eH 1 dz).trans A.b1;have fe:=(eH 3 dz).trans A.b3;have nk:=(eH 4 dz).trans A.b4;have h3:=(eH 5 dz).trans aN;have eF:∀y q,(dY (dY h E O) 3 y).get q=if q=3 then some y else if q=E then some O else h.get q:=λy q=>(dP fe y q).trans (by rw[gX]);have cp:∀y C q,(dY (dY (dY h E O) 3 y) 4 C).get q=if q=4 then some C else if q=3 then some y else if q=E then some O else h.get q:=λy C q=>(dP ((eF y 4).trans ((ao dz).trans ((ao dz).trans A.b4))) C q).trans (by rw[eF]);have o2:(3=E)=False:=dB;have k8:(4=E)=False:=dB;have sv:∀y,fc (dY h E O) (dY (dY h E O) 3 y) 5=true:=λy=>mW fe dz y;have ic:∀y C,TI.fz (dY (dY (dY h E O) 3 y) 4 C) cc=some (sl (gF l1)):=λy C=>(bC.mono (h':=dY (dY (dY h E O) 3 y) 4 C) λq x=>by
   have:=A.bc q x;rw[cp,ao dz,ao dz,ao dz]).fz dA
  have ie:∀y C,TI.fz (dY (dY (dY h E O) 3 y) 4 C) cf=some (sl (gF l2)):=λy C=>(jZ.mono (h':=dY (dY (dY h E O) 3 y) 4 C) λq x=>by
   have:=A.bf q x;rw[cp,ao dz,ao dz,ao dz]).fz dA
  have ih:∀y C,TI.fz (dY (dY (dY h E O) 3 y) 4 C) ct=some (sl ((s.dK.set ch.dT.toNat R).map eG.t)):=λy C=>by
   refine(A.gt.setAt t1 t3 ch.dT.toNat (.agg [dE hB,e9,fb,dE hC]) (h':=dY (dY (dY h E O) 3 y) 4 C) (by rw[cp,ao dz,ao dz,aq rfl,hv])).Ic (V:=λ_=>True) (d:=4) dz (BH (by simp[A.l]) λj x U eu hw=> ?_);rw[aU]at hw;obtain⟨lT,c4,rfl⟩:=Option.map_eq_some_iff.1 hw;by_cases eP:j=ch.dT.toNat
   ·subst eP;rw[dw (by rw[A.l];exact W)]at eu;rw[dw W]at c4;simp at eu c4;subst eu;subst c4;exact .inr (.inr ⟨_,_,rfl,lW.imp λ_ _ k=>k.mono λq G=>⟨trivial,by rw[cp,ao dz,ao dz,ao (λx=>G.2.2.2 (by rw[x];exact t1))]⟩,rfl⟩)
   ·rw[cI (λx=>eP x.symm)]at eu c4;have k7:=A.m j (List.getElem?_eq_some_iff.1 c4).1;have k9:=A.n7;refine(A.o j x lT eP eu c4).mono λq G=>⟨trivial,?_⟩;rw[cp,ao dz,ao dz,ao (λx=>(A.bt E t1).2.2 j (List.getElem?_eq_some_iff.1 c4).1 (by rw[<-x];exact G))]
  simp[b8,ap,bp,bs,bu,aX,A.b1,A.b2,eK eV,lv,t2,t3,t4,dZ,hv,hZ,fe,h3,eF,cp,k8,A.b4,sv,ic,ie,ih,A.ok.hp];have fB:S=(ff c.fj s.fM ch.dT u.kind u.obj ch.Fb).1:=by rw[kg]
  have eR:=yd c.fj s.fM ch.dT u.kind u.obj ch.Fb;rw[<-fB]at eR;refine⟨⟨S,l1,l2,s.dK.set ch.dT.toNat R⟩,⟨u.dT,u.kind,u.obj,v,u.jk,u.mN,u.vh⟩,true,by simp[iK.t,iK.cs,bY],kB,λ_=>⟨⟨⟨by rw[eR.1];omega,by rw[eR.2.1];omega,by rw[eR.2.2];omega,by rw[bS];omega,by rw[k1];omega,dB⟩,?_,?_,λU hw=> ?_⟩,λN hc U hw=> ?_⟩⟩
  ·rw[fB];refine Dk I.r _ ⟨eV,?_⟩ _ _ _;have:=X.f.th;omega
  ·rw[fB];exact ye I.a _ _ _ _ _
  ·rcases cg hw with q|rfl
   ·exact I.t U q
   ·exact gz
  ·rcases cg hw with q|rfl
   ·have:=hc U q;omega
   ·have:=hc t (ax b9);omega
end
end Go.Proofs.YtmaeadedikngoaaGreatDoor
