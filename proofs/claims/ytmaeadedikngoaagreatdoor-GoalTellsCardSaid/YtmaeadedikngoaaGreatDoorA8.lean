/- Texts TiCallT to S20. -/
import Derived.Test.YtmaeadedikngoaaGreatDoorA7
import Derived.KernelRfl
set_option linter.all false
set_option maxRecDepth 100000
set_option maxHeartbeats 8000000
namespace Go.TI
theorem dI{p:Prop}(h:p:=by kernel_rfl):p:=h
end Go.TI
namespace Go.TI
noncomputable section
mutual
def cn:T->T
 | .dM b c=>(match b with| []=> .gu|e::b=> .dM (W9 (e::b)) false)
 | .agg a=> .agg (W9 a)
 | .tuple a=> .tuple (W9 a)
 |v=>v
def W9:List T->List T
 | []=>[]
 |x::a=>cn x::W9 a
end
def Gu:∀a:List T,W9 a=a.map cn
 | []=>by rw[W9];rfl
 |x::b=>by rw[W9,Gu b];rfl
def ny(a:List T)(b:Bool):cn (.dM a b)=sl (a.map cn):=by
 cases a with
 |nil=>rw[cn];rfl
 |cons c a=>rw[cn,Gu];rfl
def jS(a:List T):cn (.agg a)= .agg (a.map cn):=by rw[cn,Gu]
def uq(a:List T):cn (.tuple a)= .tuple (a.map cn):=by rw[cn,Gu]
@[simp] theorem Qv:cn .undef= .undef:=by simp[cn]
@[simp] theorem LC (a:Bool):cn (.bool a)=(.bool a):=by simp[cn]
@[simp] theorem Gt (a:ak) (b:Int):cn (.int a b)=(.int a b):=by simp[cn]
@[simp] theorem Gs (a:List Nat):cn (.str a)=(.str a):=by simp[cn]
@[simp] theorem Lz:cn .kx= .kx:=by simp[cn]
@[simp] theorem WZ (a b c d:Nat):cn (.ptr a b c d)=(.ptr a b c d):=by simp[cn]
@[simp] theorem Lx (a:List T):cn (.jy a)=(.jy a):=by simp[cn]
@[simp] theorem In:cn .gu= .gu:=by simp[cn]
@[simp] theorem W8 (a b e d:Nat) (c:Bool):cn (.arr a b e d c)=(.arr a b e d c):=by simp[cn]
@[simp] theorem Ti (b:aj) (a:List T):cn (.func b a)=(.func b a):=by simp[cn]
@[simp] theorem LB:cn .kN= .kN:=by simp[cn]
@[simp] theorem LA:cn .kP= .kP:=by simp[cn]
@[simp] theorem Qx (a:ab) (b:T):cn (.iface a b)=(.iface a b):=by simp[cn]
@[simp] theorem Tg (a:Nat):cn (.iter a)=(.iter a):=by simp[cn]
@[simp] theorem W7 (a:Nat):cn (.map a)=(.map a):=by simp[cn]
@[simp] theorem Tf:cn .nU= .nU:=by simp[cn]
def E0(a:T):(cn a).scalar=a.scalar:=by
 cases a with
 |dM c d=>rw[ny];cases c<;>rfl
 |agg b=>rw[jS];rfl
 |tuple b=>rw[uq];rfl
 |_=>simp
def Io(a:T):(cn a).cells=a.cells.map cn:=by
 cases a with
 |dM c d=>rw[ny];cases c<;>(show [_]=[_];rw[ny])
 |agg b=>rw[jS];rfl
 |tuple b=>rw[uq];show [_]=[_];rw[uq]
 |_=>simp[T.cells]
def Tj(a:List T):fw (a.map cn)=(fw a).map cn:=by
 induction a with
 |nil=>rfl
 |cons c a b=>
  unfold fw at*
  simp only[aV,aQ,b,Io,List.map_append]
def kv.cn{a:T}(c:kv a):kv (cn a):=by
 induction c with
 |dM b n _ f=>
  rw[ny];cases b with
  |nil=>exact .gu
  |cons j b=>
   exact .dM _ _ (λa d=>by
    obtain⟨g,e,rfl⟩:=List.mem_map.1 (show a∈(j::b).map Go.TI.cn from d);exact f g e)
 |agg h _ f=>
  rw[jS];exact .agg _ (λa d=>by
   obtain⟨g,e,rfl⟩:=List.mem_map.1 d;exact f g e)
 |jy h c=>rw[Lx];exact .jy h c
 |bool i=>rw[LC];exact .bool i
 |int k l=>rw[Gt];exact .int k l
 |str m=>rw[Gs];exact .str m
 |kx=>rw[Lz];exact .kx
 |gu=>rw[In];exact .gu
 |kN=>rw[LB];exact .kN
 |kP=>rw[LA];exact .kP
def fD.cn{hp:af Obj}{μ:Mu}{e:T}{s:am}(d:fD hp μ e s):fD hp μ (cn e) s:=by
 induction d with
 |nP x g=>rw[ny];exact .gu g 0
 |dM m n x t off u N arr r fz B A hl Q H i p hr k=>
  rw[ny];show fD hp μ (.dM (Go.TI.cn m::n.map Go.TI.cn) false) _;have z:fw (Go.TI.cn m::n.map Go.TI.cn)=(fw (m::n)).map Go.TI.cn:=Tj (m::n);have:=fD.dM (hp:=hp) (μ:=μ) (Go.TI.cn m) (n.map Go.TI.cn) false t off u N arr r fz B A (by simpa using hl) dA (λe j=> ?_) ?_ ?_ ?_
  ·simpa using this
  ·have j:e∈(m::n).map Go.TI.cn:=j;obtain⟨c,b,rfl⟩:=List.mem_map.1 j;rw[Io,aG];exact H c b
  ·rw[z,aG];exact i
  ·intro e j;rw[z]at j;obtain⟨c,b,rfl⟩:=List.mem_map.1 j;exact⟨by rw[E0];exact(p c b).1,(p c b).2.cn⟩
  ·intro f e a;rw[z,aU]at a;cases b:(fw (m::n))[f]? with
   |none=>rw[b]at a;simp at a
   |some c=>rw[b]at a;simp at a;subst a;exact k f c b
 |agg v q i p hr k=>
  rw[jS];refine .agg _ q (by simpa using i) (λe j=> ?_) λf e a=> ?_
  ·obtain⟨c,b,rfl⟩:=List.mem_map.1 j;rw[E0];exact p c b
  ·rw[aU]at a;cases b:v[f]? with
   |none=>rw[b]at a;simp at a
   |some c=>rw[b]at a;simp at a;subst a;exact k f c b
 |tuple O q i hr k=>
  rw[uq];refine .tuple _ q (by simpa using i) λf e a=> ?_;rw[aU]at a;cases b:O[f]? with
  |none=>rw[b]at a;simp at a
  |some c=>rw[b]at a;simp at a;subst a;exact k f c b
 |jy v t off arr r fz B A i p hr k=>rw[Lx];exact .jy v t off arr r fz B A i p hr
 |undef=>rw[Qv];exact .undef
 |bool h=>rw[LC];exact .bool h
 |int f K=>rw[Gt];exact .int f K
 |str M d=>rw[Gs];exact .str M d
 |kx=>rw[Lz];exact .kx
 |ptr h w C I l g o y G=>rw[WZ];exact .ptr h w C I l g o y G
 |gu g u=>rw[In];exact .gu g u
 |arr h w L J x l g E o y hl d=>rw[W8];exact .arr h w L J x l g E o y hl d
 |func F D q i hr k=>rw[Ti];exact .func F D q i hr
 |kN=>rw[LB];exact .kN
 |kP=>rw[LA];exact .kP
 |iface r e s d k=>rw[Qx];exact .iface r e s d
 |iter h l g o d=>rw[Tg];exact .iter h l g o d
 |map h l C o d=>rw[W7];exact .map h l C o d
 |nU=>rw[Tf];exact .nU
def gJ.cn{f:af Obj}{h:Mu}{c:List T}{d:List am}(e:gJ f h c d):gJ f h (c.map Go.TI.cn) d:=by
 refine⟨by simpa using e.1,λg j a=> ?_⟩;rw[aU]at a;cases b:c[g]? with
 |none=>rw[b]at a;simp at a
 |some i=>rw[b]at a;simp at a;subst a;exact(e.2 g i b).cn
mutual
def ml:T->Bool
 | .bool _| .int _ _| .str _| .kx| .kN| .kP| .nU| .gu=>true
 | .agg a=>oQ a
 | .tuple a=>oQ a
 |_=>false
def oQ:List T->Bool
 | []=>true
 |x::a=>ml x&&oQ a
end
def AN{a:List T}(c:oQ a=true):∀b∈a,ml b=true:=by
 induction a with
 |nil=>intro b hx;simp at hx
 |cons e a d=>
  intro b hx;rw[oQ,aB]at c;rcases List.mem_cons.1 hx with rfl|hx
  ·exact c.1
  ·exact d c.2 b hx
def fD.plain{n o:af Obj}{r s:Mu}{a:T}{i:am}(f:fD n r a i)(c:ml a=true):fD o s a i:=by
 induction f with
 |bool k=>exact .bool k
 |int d p=>exact .int d p
 |str q f=>exact .str q f
 |kx=>exact .kx
 |kN=>exact .kN
 |kP=>exact .kP
 |nU=>exact .nU
 |gu j l=>exact .gu j l
 |agg t e g m hr h=>
  rw[ml]at c;exact .agg _ e g m λd a b=>h d a b (AN c a (ax b))
 |tuple u e g hr h=>
  rw[ml]at c;exact .tuple _ e g λd a b=>h d a b (AN c a (ax b))
 |_=>simp[ml]at c
section
variable {P:ai}{cx:Ctx}
def Nz{b:Mu}{a:Nat}:nC (mz 0 b) a↔b.pw a:=by
 constructor
 ·rintro(⟨e,d,c,_⟩|hr)
  ·exact absurd (ka c).1 dz
  ·exact hr
 ·exact λhr=> .inr hr
def Mj{y:aj}{o k:List T}{w:T}{s:H}(E:lr P cx y (k.map cn) w)(u:fN (ks s 0) o=some k)(hr:ml w=true):qC P cx ⟨y,o,s,w,s⟩:=by
 intro V d f x b A;have D:gJ d.heap (mz 0 f) k x.toList:=by
  have z:iB (λj R=>∀p,fD d.heap f j p->fD d.heap (mz 0 f) R p) o k:=iB.map (λn m Z M p F=>qx b F M) u;refine⟨by rw[<-z.length];exact A.1,λN j I=> ?_⟩;obtain⟨n,m,u⟩:=z.get I;exact u _ (A.2 N n m)
 have Q:St cx d.heap.size d.heap (mz 0 f) hE:=by
  refine⟨rfl,au _,λh e c=>absurd (ka c).1 dz,λh U e S c=>absurd (ka c).1 dz,λh e c=>absurd (ka c).1 dz,λh e c=>absurd (ka c).1 dz,λa hr=>b.qH a hr,λr q v=> ?_⟩;have:=b.yN r q v;refine this.cut ?_;obtain⟨_,_,_,_,_,_,_,_,_,K,_⟩:=this.ma;exact .jy _ λj L=>(K j L).2.low 0
 refine(E d.heap.size d (mz 0 f) x hE Q D.cn).mono λj C ⟨⟨ae,O,W,g,X⟩,Y⟩=> ?_;have B:∀a,a<d.heap.size->¬f.pw a->C.heap[a]? =d.heap[a]? :=λa i l=>(g.ext.nN a i λG=>l (Nz.1 G)).1;have t:Ext d.heap f C.heap f:=by
  refine⟨g.ext.size,λa i l=>⟨B a i λhr=>l (.inr hr),l⟩,λh e c=>⟨e,c,.inl rfl⟩,rfl,λa i hr=>g.ext.kept a i hr⟩
 refine⟨⟨f,O.plain hr,⟨b.wf,aS b.fit g.ext.size,λh e c=> ?_,b.inj,b.low,b.apart,λa hr=>bE (b.qH a hr) g.ext.size,λr q v=>(b.yN r q v).ext t⟩,⟨t,g.os,g.tape,g.output⟩,yg.refl _ _⟩,lm.refl b.wf⟩;obtain⟨n,m,J⟩:=b.box h e c;exact⟨n,m,J.ext t (B e.iS (b.lt c) (b.apart h e c))⟩
def Mi{c:aj}{b:List T}{d:T}{a:H}(h:lr P cx c (b.map cn) d):qC P cx ⟨c,b,a,d,a⟩:=
 λe j k f i g=>h e j k f a i g.cn
structure hU where
 α:Type
 A:α->List T
 pre:α->Prop
 R:α->T
 inj:∀a b,A a=A b->R a=R b
structure lf where
 pre:List T->H->Prop
 post:List T->H->T->H->Prop
structure fJ where
 p:aj->aa hU
 h:aj->aa lf
open Classical in
def rl(P:ai)(cx:Ctx)(f:fJ)(d:aj)(c:List T):aa T:=match f.p d with
 |none=>none
 |some a=>if e:∃b,a.pre b/\a.A b=c/\lr P cx d c (a.R b)then some (a.R e.choose)else none
open Classical in
def hl(P:ai)(cx:Ctx)(g:fJ)(c:aj)(b:List T)(d:H):aa (T×H):=match g.h c with
 |none=>none
 |some e=>if f:∃a:T×H,e.post b d a.1 a.2/\qC P cx ⟨c,b,d,a.1,a.2⟩then some f.choose else none
def xi(h:H)(d:Nat)(v:T):aa T:=dU (freeze h 0 d v) λv=>some (cn v)
def fz(b:H)(a:T):aa T:=dU (iJ b 0 a) λa=>some (cn a)
def qJ(b:H)(a:T):aa T:=dU (ks b 0 a) λa=>some (cn a)
def QX(b:H)(a:List T):aa (List T):=fN (qJ b) a
mutual
def jW:T->Bool
 | .bool _| .int _ _| .str _| .kx| .dM _ _| .gu| .kN| .kP=>true
 | .agg a=>oJ a
 |_=>false
def oJ:List T->Bool
 | []=>true
 |x::a=>jW x&&oJ a
end
def qZ(P:ai)(cx:Ctx)(d:fJ):iY:=λc a b=>match QX b a with
 |none=>hl P cx d c a b
 |some f=>match rl P cx d c f with
  |none=>hl P cx d c a b
  |some e=>if(ml e||oJ a)=true then some (e,b)else hl P cx d c a b
def rU{f g j:Type}(b:f->aa g)(d:g->j):∀a:List f,fN (λc=>dU (b c) λe=>some (d e)) a=dU (fN b a) λi=>some (i.map d):=by
 intro a;induction a with
 |nil=>rfl
 |cons c a h=>
  rw[jH,jH,h];cases b c with
  |none=>rfl
  |some e=>simp only[dX];cases fN b a<;>rfl
def IC{e:H}{c d:List T}(a:QX e c=some d):∃b,fN (ks e 0) c=some b/\d=b.map cn:=by
 unfold QX qJ at a;rw[rU]at a;obtain⟨b,hl,a⟩:=dJ.1 a;simp only[ar]at a;exact⟨b,hl,a.symm⟩
mutual
def sU(e:H)(g d:Nat):(b:T)->jW b=true->(∀c,b≠ .agg c)->freeze e g (d+1) b=some b
 | .bool _,_,_=>rfl
 | .int _ _,_,_=>rfl
 | .str _,_,_=>rfl
 | .kx,_,_=>rfl
 | .dM _ _,_,_=>rfl
 | .gu,_,_=>rfl
 | .kN,_,_=>rfl
 | .kP,_,_=>rfl
 | .agg c,_,f=>absurd rfl (f c)
 | .undef,a,_=>by simp[jW]at a
 | .ptr ..,a,_=>by simp[jW]at a
 | .jy _,a,_=>by simp[jW]at a
 | .arr ..,a,_=>by simp[jW]at a
 | .func ..,a,_=>by simp[jW]at a
 | .iface ..,a,_=>by simp[jW]at a
 | .iter _,a,_=>by simp[jW]at a
 | .map _,a,_=>by simp[jW]at a
 | .nU,a,_=>by simp[jW]at a
 | .tuple _,a,_=>by simp[jW]at a
end
def qy(b:H){a:T}(c:jW a=true)(e:∀d,a≠ .agg d):iJ b 0 a=some a:=by
 have:=sU b 0 11 a c e;cases a<;>first|exact this|(simp[jW]at c)
def BX{a:List T}(c:oJ a=true):∀b∈a,jW b=true:=by
 induction a with
 |nil=>intro b hx;simp at hx
 |cons e a d=>
  intro b hx;rw[oJ,aB]at c;rcases List.mem_cons.1 hx with rfl|hx
  ·exact c.1
  ·exact d c.2 b hx
def QW{b:H}{a e:List T}{base:Nat}{o:af Obj}{t:Mu}{j:List am}(m:gJ o t a j)(p:oJ a=true)(n:QX b a=some e):e=a.map cn:=by
 obtain⟨v,hl,rfl⟩:=IC n;have:fN (ks b 0) a=some a:=by
  refine sO λh f=> ?_;have d:=BX p h f;obtain⟨w,r⟩:=m.mem f;cases h with
  |agg l=>
   show(dU (fN (iJ b 0) l) λs=>some (T.agg s))=_;obtain⟨u,rfl,_,q⟩:=r.pP;rw[sO λi g=>qy b (BX (by rw[jW]at d;exact d) i g) (λk c=>by have:=q i g;rw[c]at this;simp[T.scalar]at this)];rfl
  |_=>exact qy b d (λk c=>by simp at c)
 rw[this]at hl;simp only[ar]at hl;rw[hl]
def G9{f:fJ}{c:aj}{b:List T}{d:T}(a:rl P cx f c b=some d):lr P cx c b d:=by
 unfold rl at a;split at a
 ·simp at a
 ·split at a
  ·rename_i e;simp only[ar]at a;subst a;exact e.choose_spec.2.2
  ·simp at a
def CG{h:fJ}{c:aj}{b:List T}{d e:H}{f:T}(a:hl P cx h c b d=some (f,e)):qC P cx ⟨c,b,d,f,e⟩:=by
 unfold hl at a;split at a
 ·simp at a
 ·split at a
  ·rename_i g;simp only[ar]at a;have:=g.choose_spec.2;rw[a]at this;exact this
  ·simp at a
def C9(P:ai)(cx:Ctx)(j:fJ):nL P cx (qZ P cx j):=by
 intro m k n q o a base f g d e b;unfold qZ at a;split at a
 ·exact CG a base f g d e b
 ·rename_i l h;split at a
  ·exact CG a base f g d e b
  ·rename_i r hr;split at a
   ·rename_i c;simp only[ar,ay]at a;obtain⟨rfl,rfl⟩:=a;rw[bV]at c;rcases c with c|c
    ·obtain⟨p,hl,rfl⟩:=IC h;exact Mj (G9 hr) hl c base f g d e b
    ·have i:=QW (base:=base) b c h;subst i;exact Mi (G9 hr) base f g d e b
   ·exact CG a base f g d e b
def hU.Ok(P:ai)(cx:Ctx)(c:aj)(b:hU):Prop:=∀a,b.pre a->lr P cx c (b.A a) (b.R a)
def im{g:fJ}{c:aj}{a:hU}(ht:g.p c=some a)(h:a.Ok P cx c)(b:a.α)(e:a.pre b):rl P cx g c (a.A b)=some (a.R b):=by
 have f:∃d,a.pre d/\a.A d=a.A b/\lr P cx c (a.A b) (a.R d):=⟨b,e,rfl,h b e⟩;unfold rl;rw[ht];simp only;rw[dif_pos f,a.inj _ _ f.choose_spec.2.1]
def lf.Ok(P:ai)(cx:Ctx)(f:aj)(c:lf):Prop:=∀a b,c.pre a b->∃e d,c.post a b e d/\qC P cx ⟨f,a,b,e,d⟩
def ET{tb:fJ}{d:aj}{c:lf}(ht:tb.h d=some c)(l:c.Ok P cx d){a:List T}{b:H}(m:c.pre a b):∃i e,hl P cx tb d a b=some (i,e)/\c.post a b i e:=by
 obtain⟨i,e,j,k⟩:=l a b m;have f:∃g:T×H,c.post a b g.1 g.2/\qC P cx ⟨d,a,b,g.1,g.2⟩:=⟨(i,e),j,k⟩;refine⟨f.choose.1,f.choose.2,?_,f.choose_spec.1⟩;unfold hl;rw[ht];simp only;rw[dif_pos f]
def Bo{b:fJ}{a:aj}(ht:b.p a=none)(c:List T):rl P cx b a c=none:=by unfold rl;rw[ht]
def cfV(e:aa T)(c:Bool)(d:H)(a:aa (T×H)):aa (T×H):=match e with
 |none=>a
 |some b=>if(ml b||c)=true then some (b,d)else a
@[simp] theorem abE (b:Bool) (c:H) (a:aa (T×H)):cfV none b c a=a:=id rfl
@[simp] theorem QA (a:T) (b:Bool) (c:H) (d:aa (T×H)):cfV (some a) b c d=if(ml a||b)=true then some (a,c)else d:=id rfl
def cfW(P:ai)(cx:Ctx)(e:fJ)(c:aj)(a:List T)(d:H)(b:aa (List T)):aa (T×H):=match b with
 |none=>hl P cx e c a d
 |some b=>cfV (rl P cx e c b) (oJ a) d (hl P cx e c a d)
@[simp] theorem Qz (d:fJ) (b:aj) (a:List T) (c:H):cfW P cx d b a c none=hl P cx d b a c:=id rfl
@[simp] theorem Qy (d:fJ) (b:aj) (a e:List T) (c:H):cfW P cx d b a c (some e)=cfV (rl P cx d b e) (oJ a) c (hl P cx d b a c):=id rfl
def QB(d:fJ)(c:aj)(a:List T)(b:H):qZ P cx d c a b=cfW P cx d c a b (QX b a):=by
 unfold qZ cfW cfV;cases QX b a with
 |none=>rfl
 |some e=>rfl
end
end
noncomputable section
section
variable {cx:Ctx}{h:H}
@[simp] theorem aeB (a:ak) (b:Int):fz h (.int a b)=some (.int a b):=id rfl
@[simp] theorem acI (a:Bool):fz h (.bool a)=some (.bool a):=id rfl
@[simp] theorem aez (a:List Nat):fz h (.str a)=some (.str a):=id rfl
@[simp] theorem Ll (a:List T) (b:Bool):fz h (.dM a b)=some (sl (a.map cn)):=by
 show some (cn (.dM a b))=_;rw[ny]
@[simp] theorem Wy (a b c d:Nat):fz h (.ptr a b c d)=none:=by
 unfold fz iJ;simp
@[simp] theorem acO (c:Nat) (a:ak) (b:Int):xi h (c+1) (.int a b)=some (.int a b):=id rfl
@[simp] theorem abs (b:Nat) (a:Bool):xi h (b+1) (.bool a)=some (.bool a):=id rfl
@[simp] theorem acM (b:Nat) (a:List Nat):xi h (b+1) (.str a)=some (.str a):=id rfl
@[simp] theorem P5 (c:Nat) (a:List T) (b:Bool):xi h (c+1) (.dM a b)=some (sl (a.map cn)):=by
 show some (cn (.dM a b))=_;rw[ny]
@[simp] theorem SH (b:Nat) (a:List T):xi h (b+1) (.agg a)=dU (fN (xi h b) a) λc=>some (.agg c):=by
 show(dU (dU (fN (freeze h 0 b) a) λc=>some (T.agg c)) λd=>some (cn d))=_;unfold xi;rw[rU];cases fN (freeze h 0 b) a with
 |none=>rfl
 |some c=>simp[jS]
def gH(d e b c:Nat)(m:Bool):h.jf (.arr d e b c m)=dU (h.get d) λa=>gD (decide (a.ep=e)) (if a.it=true then none else if b+c<=a.eY.length then some ((a.eY.drop b).take c)else none):=by
 show(dU (h.get d) λa=>iZ.casesOn a λ_ g _ _ f l=>gD (Nat.beq g e) (Bool.casesOn f (dU (jX b l) λn=>takeN c n) none))=_;cases h.get d with
 |none=>rfl
 |some a=>
  obtain⟨p,g,q,o,f,i⟩:=a;simp only[dX,uV];congr 1;cases f with
  |true=>rfl
  |false=>
   simp only[cr,br,md,nR];by_cases j:b<=i.length
   ·rw[aq j,dX];by_cases k:b+c<=i.length
    ·rw[aq k,aq dB]
    ·rw[ao k,ao dB]
   ·rw[ao j,ao dz];rfl
def xU(i a c e d:Nat)(k:Bool):xi h (i+1) (.arr a c e d k)=dU (h.jf (.arr a c e d k)) λf=>dU (fN (xi h i) f) λb=>some (sl b):=by
 have p:freeze h 0 (i+1) (.arr a c e d k)=gD (Nat.ble 0 a) (dU (h.get a) λg=>iZ.casesOn g λ_ j _ exact l m=>
  gD (Nat.beq j c) (@Bool.rec (λ_=>aa T) (dU (dU (jX e m) λb=>takeN d b) λf=>dU (fN (freeze h 0 i) f) λn=>
   @List.rec T (λ_=>aa T) (@List.rec T (λ_=>aa T) (@Bool.rec (λ_=>aa T) (some T.gu) (some (T.dM [] false)) exact) (λ_ _ _=>some T.gu) m) (λ_ _ _=>some (T.dM n k)) n) none l)):=rfl
 have q:h.jf (.arr a c e d k)=dU (h.get a) λg=>iZ.casesOn g λ_ j _ _ l m=>gD (Nat.beq j c) (@Bool.rec (λ_=>aa (List T)) (dU (jX e m) λb=>takeN d b) none l):=rfl;unfold xi;rw[p,q];rw[show Nat.ble 0 a=true by simp,iu];cases h.get a with
 |none=>rfl
 |some g=>
  obtain⟨r,j,s,o,l,f⟩:=g;simp only[dX];cases Nat.beq j c with
  |false=>rfl
  |true=>
   simp only[iu];cases l with
   |true=>rfl
   |false=>
    simp only;cases (dU (jX e f) λb=>takeN d b)with
    |none=>rfl
    |some es1=>
     simp only[dX];rw[rU];cases fN (freeze h 0 i) es1 with
     |none=>rfl
     |some wU=>
      simp only[dX];cases wU with
      |nil=>
       cases f with
       |nil=>cases o<;>simp[ny,sl]
       |cons=>simp[sl]
      |cons g b=>simp[ny]
@[simp] theorem vX (a b e d:Nat) (c:Bool):fz h (.arr a b e d c)=dU (h.jf (.arr a b e d c)) λf=>dU (fN (xi h 11) f) λg=>some (sl g):=by
 rw[<-xU];unfold fz xi iJ;simp only;rw[show Nat.ble 0 a=true by simp]
def Ly(a:List T):cn (sl a)=sl (a.map cn):=by
 cases a with
 |nil=>rfl
 |cons c b=>exact ny (c::b) false
def abm(a:List T):fz h (sl a)=some (sl (a.map cn)):=by cases a<;>first|rfl|exact Ll _ _
def WA(b:Nat)(a:List T):xi h (b+1) (sl a)=some (sl (a.map cn)):=by cases a<;>first|rfl|exact P5 b _ _
@[simp] theorem aeQ {d:Type} (a:d->T) (c:List d) (e:∀b,cn (a b)=a b):cn (sl (c.map a))=sl (c.map a):=by
 rw[Ly,cK];congr 2;funext b;exact e b
@[simp] theorem aeA {d:Type} (a:d->T) (c:List d) (e:∀b,cn (a b)=a b):fz h (sl (c.map a))=some (sl (c.map a)):=by
 rw[abm,cK];congr 3;funext b;exact e b
@[simp] theorem acN {d:Type} (e:Nat) (a:d->T) (c:List d) (f:∀b,cn (a b)=a b):xi h (e+1) (sl (c.map a))=some (sl (c.map a)):=by
 rw[WA,cK];congr 3;funext b;exact f b
@[simp] theorem Cu {e:Type} (c:T->aa T) (a:e->T) (d:List e) (f:∀b,c (a b)=some (a b)):fN c (d.map a)=some (d.map a):=sO λb g=>by
 obtain⟨i,_,rfl⟩:=List.mem_map.1 g;exact f i
@[simp] theorem SF (a:List T):qJ h (.agg a)=dU (fN (fz h) a) λb=>some (.agg b):=by
 show(dU (dU (fN (iJ h 0) a) λb=>some (T.agg b)) λc=>some (cn c))=_;unfold fz;rw[rU];cases fN (iJ h 0) a with
 |none=>rfl
 |some b=>simp[jS]
@[simp] theorem acL (a:ak) (b:Int):qJ h (.int a b)=some (.int a b):=id rfl
@[simp] theorem abp (a:Bool):qJ h (.bool a)=some (.bool a):=id rfl
@[simp] theorem acJ (a:List Nat):qJ h (.str a)=some (.str a):=id rfl
@[simp] theorem abn (a:List T) (b:Bool):qJ h (.dM a b)=fz h (.dM a b):=id rfl
@[simp] theorem aeC (a:List T):qJ h (sl a)=fz h (sl a):=by cases a<;>rfl
@[simp] theorem Gb (a b e d:Nat) (c:Bool):qJ h (.arr a b e d c)=fz h (.arr a b e d c):=id rfl
@[simp] theorem acK (a b c d:Nat):qJ h (.ptr a b c d)=none:=Wy (h:=h) a b c d
@[simp] theorem ade:QX h []=some []:=id rfl
@[simp] theorem abL (b:T) (a:List T):QX h (b::a)=dU (qJ h b) λd=>dU (QX h a) λc=>some (d::c):=id rfl
@[simp] theorem Vx:oJ []=true:=by rw[oJ]
@[simp] theorem Uk (b:T) (a:List T):oJ (b::a)=(jW b&&oJ a):=by rw[oJ]
@[simp] theorem XU (a:ak) (b:Int):jW (.int a b)=true:=by rw[jW]
@[simp] theorem Vz (a:Bool):jW (.bool a)=true:=by rw[jW]
@[simp] theorem XT (a:List Nat):jW (.str a)=true:=by rw[jW]
@[simp] theorem Vy (a:List T) (b:Bool):jW (.dM a b)=true:=by rw[jW]
@[simp] theorem Ul:jW .gu=true:=by rw[jW]
@[simp] theorem ZZ (a:List T):jW (sl a)=true:=by cases a<;>simp[sl]
@[simp] theorem XW (a:List T):jW (.agg a)=oJ a:=by rw[jW]
@[simp] theorem XV (a b e d:Nat) (c:Bool):jW (.arr a b e d c)=false:=by simp[jW]
@[simp] theorem UF:oQ []=true:=by rw[oQ]
@[simp] theorem RV (b:T) (a:List T):oQ (b::a)=(ml b&&oQ a):=by rw[oQ]
@[simp] theorem VN (a:ak) (b:Int):ml (.int a b)=true:=by rw[ml]
@[simp] theorem UG (a:Bool):ml (.bool a)=true:=by rw[ml]
@[simp] theorem RX:ml .gu=true:=by rw[ml]
@[simp] theorem RW (a:List T):ml (.tuple a)=oQ a:=by rw[ml]
@[simp] theorem Lh (a:List T):m6 (sl a)=mP a:=by cases a<;>simp[sl]
@[simp] theorem act {c:Type} (a:c->T) (b:List c) (d:∀e,m6 (a e)=true):mP (b.map a)=true:=MU a d b
@[simp] theorem abF (a:List T):(sl a).cells=[sl a]:=by cases a<;>rfl
@[simp] theorem acG (a:List T):(sl a).il=true:=by cases a<;>rfl
@[simp] theorem abg (a b e d:Nat) (c:Bool):(T.arr a b e d c).il=true:=id rfl
@[simp] theorem abe (a b c d:Nat):(T.ptr a b c d).il=true:=id rfl
@[simp] theorem Yu (a b e d:Nat) (c:Bool):(T.arr a b e d c).cells=[.arr a b e d c]:=id rfl
@[simp] theorem Ys (a b c d:Nat):(T.ptr a b c d).cells=[.ptr a b c d]:=id rfl
@[simp] theorem acu (b:Ty) (a:List T) (d:ab) (c:b.u= .slice d):DJ cx h b (sl a)=some (.val (.int .i64 a.length) h):=by cases a<;>simp[sl,c]
@[simp] theorem acE (c:Ty) (a:List T) (b:Nat):kK h c (sl a) b=dU (a[b]?) λd=>gD (decide (d.cells.length=c.size)) (some (.val (.jy d.cells) h)):=by cases a<;>simp[sl];rfl
@[simp] theorem PW (a:List T):h.jf (sl a)=some a:=by cases a<;>rfl
def zq{a b:List T}(c:sl a=sl b):a=b:=by
 cases a<;>cases b<;>simp[sl]at c
 ·rfl
 ·rw[c.1,c.2]
def jD{f:Type}{a:f->T}(g:∀d e,a d=a e->d=e){b c:List f}(i:sl (b.map a)=sl (c.map a)):b=c:=by
 have:=zq i;exact(List.map_inj_right g).1 this
@[simp] theorem dV (b:iZ) (a:Nat):(h.cons b).get a=if a=h.size then some b else h.get a:=by
 rw[H.get_eq,H.get_eq];show(if a<h.size+1 then(b::h.fx)[h.size+1-1-a]? else none)=_;by_cases c:a=h.size
 ·subst c;rw[aq dz,aq rfl];simp
 ·rw[ao c];by_cases d:a<h.size
  ·rw[aq dz,aq d,show h.size+1-1-a=(h.size-1-a)+1 by omega];simp
  ·rw[ao dz,ao d]
def dP{a:Nat}{x:iZ}(n:h.get a=some x)(d:iZ)(e:Nat):(dY h a d).get e=if e=a then some d else h.get e:=by
 have c:=yv n d;generalize dY h a d=i at*
 obtain⟨b,j,f⟩:=h;have l:a<b:=H.ew n;have c:(gD (Nat.blt a b) (dU (kM f (Nat.sub (Nat.sub b 1) a) d) λk=> @Bool.rec (λ_=>aa H) (some ⟨b,j,k⟩) (some ⟨b,a,k⟩) (Nat.blt a j)))=some i:=c;rw[show Nat.blt a b=true by rw[aH];exact l,iu,kO]at c;by_cases hl:Nat.sub (Nat.sub b 1) a<f.length
 ·rw[aq hl,dX]at c;have r:i.size=b/\i.fx=f.set (b-1-a) d:=by
   cases o:Nat.blt a j<;>rw[o]at c<;>simp only[ar]at c<;>subst c<;>exact⟨rfl,rfl⟩
  obtain⟨p,q⟩:=r;rw[H.get_eq,H.get_eq,p,q];have hl:b-1-a<f.length:=hl;by_cases m:e=a
  ·subst m;rw[aq l,aq rfl];simp[hl]
  ·rw[ao m];simp only;by_cases g:e<b
   ·rw[aq g,aq g,cI dz]
   ·rw[ao g,ao g]
 ·rw[ao hl]at c;simp at c
@[simp] theorem fU (b:Nat) (f:iZ):(dY h b f).size=h.size:=by
 unfold dY;cases a:h.put b f with
 |none=>rfl
 |some g=>
  obtain⟨c,e,i⟩:=h;have a:(gD (Nat.blt b c) (dU (kM i (Nat.sub (Nat.sub c 1) b) f) λd=> @Bool.rec (λ_=>aa H) (some ⟨c,e,d⟩) (some ⟨c,b,d⟩) (Nat.blt b e)))=some g:=a;obtain⟨_,a⟩:=dR.1 a;obtain⟨d,_,a⟩:=dJ.1 a;show g.size=c;cases j:Nat.blt b e<;>rw[j]at a<;>simp only[ar]at a<;>subst a<;>rfl
@[simp] theorem adq (b:Nat) (g:iZ):Hp (dY h b g)=Hp h:=by
 unfold dY;cases a:h.put b g with
 |none=>rfl
 |some i=>
  obtain⟨d,f,j⟩:=h;have a:(gD (Nat.blt b d) (dU (kM j (Nat.sub (Nat.sub d 1) b) g) λe=> @Bool.rec (λ_=>aa H) (some ⟨d,f,e⟩) (some ⟨d,b,e⟩) (Nat.blt b f)))=some i:=a;obtain⟨_,a⟩:=dR.1 a;obtain⟨e,c,a⟩:=dJ.1 a;rw[kO]at c;split at c
  ·simp only[ar]at c;subst c;show Hp i=_;unfold Hp;cases k:Nat.blt b f<;>rw[k]at a<;>simp only[ar]at a<;>subst a<;>simp
  ·simp at c
@[simp] theorem Fc (a:Nat):fc h h a=true:=by
 unfold fc;cases h.get a<;>simp
def AI{b:Nat}{e:iZ}(d:h.get b=some e)(f:iZ){a:Nat}(c:a≠b):fc h (dY h b f) a=true:=by
 unfold fc;rw[dP d,ao c];cases h.get a<;>simp
def M9(h:H)(a:List T):aa T:=dU (jm h 0 (jK a)) λb=>some (cn b)
@[simp] theorem Qa (a:T) (b:a.il=true):M9 h [a]=qJ h a:=by
 cases a<;>first|rfl|(simp[T.il]at b)
def Ib(a:List T):(dU (jm h 0 (.tuple a)) λc=>some (cn c))=dU (fN (qJ h) a) λb=>some (.tuple b):=by
 show(dU (dU (fN (ks h 0) a) λb=>some (T.tuple b)) λc=>some (cn c))=_;unfold qJ;rw[rU];cases fN (ks h 0) a with
 |none=>rfl
 |some b=>simp[uq]
@[simp] theorem aeD (b c:T) (a:List T):M9 h (b::c::a)=dU (fN (qJ h) (b::c::a)) λd=>some (.tuple d):=Ib (b::c::a)
def Rm(h:H)(a:List T)(b:T):Prop:=Hp h/\M9 h a=some b
def TS(a:List T)(b:T):Rm h a b=(Hp h/\M9 h a=some b):=rfl
attribute [simp] TS
end
section
variable {P:ai}{cx:Ctx}{cf:iY}{mask:Nat}
def pt:List (Nat×hU)->aj->aa hU
 | [],_=>none
 |(b,d)::c,a=>if a=b then some d else pt c a
def ht:List (Nat×lf)->aj->aa lf
 | [],_=>none
 |(b,d)::c,a=>if a=b then some d else ht c a
@[simp] theorem adU (a:aj):pt [] a=none:=id rfl
@[simp] theorem aco (b:Nat) (d:hU) (c:List (Nat×hU)) (a:aj):pt ((b,d)::c) a=if a=b then some d else pt c a:=id rfl
@[simp] theorem aew (a:aj):ht [] a=none:=id rfl
@[simp] theorem acF (b:Nat) (d:lf) (c:List (Nat×lf)) (a:aj):ht ((b,d)::c) a=if a=b then some d else ht c a:=id rfl
def fy{k:Env->H->Out}(d:Nat)(s:d<9223372036854775808)(f:Nat->fW->H->Prop){j:iM}
 (p:∀c a h,c<d->binop .add (.int .i64 (c:Int)) (.int .i64 1)=some (.int .i64 ((c:Int)+1))->f c a h->W (k ⟨a,.nil⟩ h) (xQ (λe h=>e.tmps= .nil/\f (c+1) e.vars h) j))
 (b:∀a h,f d a h->W (k ⟨a,.nil⟩ h) (xQ (λe h=>False) j))
 {o:Nat} (q:d<o) {a:fW} {h:H} (i:f 0 a h):W (ox k o ⟨a,.nil⟩ h) j:=by
 refine Rb d f (λc a h u i=> ?_) q (aw d) i;rcases aF c d with n|t
 ·obtain⟨g,e,l,m,b⟩:=p c a h n (ik dz dz) i;refine⟨g,e,l,m,?_⟩;cases g with
  |normal=>exact⟨b.1,n,b.2⟩
  |exit r=>exact b
  |ret=>exact b
 ·have:c=d:=dz;subst this;obtain⟨g,e,l,m,b⟩:=b a h i;refine⟨g,e,l,m,?_⟩;cases g with
  |normal=>exact b.elim
  |exit r=>exact b
  |ret=>exact b
def zd{c:Func}(a:xg ⟨c,mask,false,none⟩=true):∃b,c.body=some b:=by
 unfold xg at a;simp only at a;cases d:c.body with
 |none=>rw[d]at a;simp at a
 |some b=>exact⟨b,rfl⟩
def YN(B:P.follows .mixedOrders=true)(ja:jg P cx){l:aj}{b:Func}{r:DL}(g:GM P cx l b mask r)(x:nL P cx cf){a:List T}{n:T}(hl:mP a=true)(C:a.length<=b.ntmps)(i:Nat)
 (I:∀v,nM v 0 a->W (jB cx cf i mask r (b.body.getD .skip) ⟨v,.nil⟩ hE) (CC cx mask b.results.toList λt h=>Rm h t n)):lr P cx l a n:=by
 have Q:∃c,cn c=n/\sX cx cf i b mask false a hE=some (c,hE):=by
  obtain⟨u,G,_,A⟩:=mF mask b.ntmps 0 a C;obtain⟨R,y,h,d,J,t,hr,D,f⟩:=Dm (I u A);have d:=qm _ g.dr _ _ _ d;obtain⟨w,e⟩:=zd g.ok;rw[e]at d;unfold M9 at f;obtain⟨c,f,s⟩:=dJ.1 f;simp only[ar]at s;refine⟨c,s,?_⟩;unfold sX;rw[e];simp only;rw[G,dX];have d:j4 cx cf i mask w ⟨u,.nil⟩ ⟨0,0,[]⟩=some (R,y,h):=d;rw[d,dX,kS];have E:=oK hr;rcases J with rfl|rfl<;>(simp only;rw[E,dX];exact HQ D f)
 obtain⟨c,rfl,e⟩:=Q;have z:lr P cx l a c:=yw (lZ _ hl) λj p q k o m=>
  pF (F:=⟨b,mask,false,none⟩) B ja g.at_ g.ok cf x i a hE c hE e j p q k o m
 intro j p q k h o m;refine(z j p q k h o m).mono λU V ⟨⟨S,K,L,M,N⟩,O⟩=> ?_;exact⟨⟨S,K.cn,L,M,N⟩,O⟩
end
end
noncomputable section
structure Fr(lo:Nat)(h h':H):Prop where
 size:h.size<=h'.size
 hp:Hp h->Hp h'
 get:∀c,c<lo->h'.get c=h.get c
 low:lo<=h.low->lo<=h'.low
def Fr.refl(a:Nat)(h:H):Fr a h h:=⟨au _,id,λ_ _=>rfl,id⟩
def Fr.trans{d:Nat}{h g i:H}(a:Fr d h g)(b:Fr d g i):Fr d h i:=⟨aS a.size b.size,λc=>b.hp (a.hp c),λf j=>(b.get f j).trans (a.get f j),λc=>b.low (a.low c)⟩
def Fr.cons{lo:Nat}{h:H}(hl:lo<=h.size)(a:iZ):Fr lo h (h.cons a):=⟨dA,dA,λb c=>by simp;omega,id⟩
def Oh(h:H)(b:Nat)(i:iZ)(c:Nat)(k:c<=h.low)(m:c<=b):c<=(dY h b i).low:=by
 unfold dY;cases a:h.put b i with
 |none=>exact k
 |some j=>
  obtain⟨d,g,l⟩:=h;have a:(gD (Nat.blt b d) (dU (kM l (Nat.sub (Nat.sub d 1) b) i) λf=> @Bool.rec (λ_=>aa H) (some ⟨d,g,f⟩) (some ⟨d,b,f⟩) (Nat.blt b g)))=some j:=a;obtain⟨_,a⟩:=dR.1 a;obtain⟨f,_,a⟩:=dJ.1 a;show c<=j.low;cases n:Nat.blt b g<;>rw[n]at a<;>simp only[ar]at a<;>subst a
  ·exact k
  ·exact m
def Fr.put{b:Nat}{h:H}{a:Nat}{x:iZ}(g:h.get a=some x)(f:b<=a)(d:iZ):Fr b h (dY h a d):=⟨dA,dA,λc j=>by rw[dP g,ao dz],λi=>Oh h a d b i f⟩
def so(h:H)(g:Nat)(d:T)(i:Nat)(b:List T):Prop:=
 (d= .dM [] false/\b=[])\/∃a c j f,g<=a/\d= .arr a c 0 b.length false/\h.get a=some ⟨i,c,j,f,false,b⟩
def so.nil(h:H)(a b:Nat):so h a (.dM [] false) b []:= .inl ⟨rfl,rfl⟩
def so.cons{h:H}{lo:Nat}{f:T}{d:Nat}{b:List T}(a:so h lo f d b)(n:iZ):so (h.cons n) lo f d b:=by
 rcases a with a|⟨g,i,m,j,k,l,c⟩
 ·exact .inl a
 ·have:=H.ew c;exact .inr ⟨g,i,m,j,k,l,by rw[dV,ao dz];exact c⟩
def so.il{h:H}{d:Nat}{a:T}{f:Nat}{b:List T}(c:so h d a f b):a.il=true:=by
 rcases c with⟨rfl,_⟩|⟨g,i,m,j,k,rfl,l⟩<;>rfl
def so.cells{h:H}{d:Nat}{a:T}{f:Nat}{b:List T}(c:so h d a f b):a.cells=[a]:=by
 rcases c with⟨rfl,_⟩|⟨g,i,m,j,k,rfl,l⟩<;>rfl
def so.fz{h:H}{i:Nat}{d:T}{j:Nat}{c b:List T}(g:so h i d j c)(a:fN (xi h 11) c=some b):TI.fz h d=some (sl b):=by
 rcases g with⟨rfl,rfl⟩|⟨k,l,o,m,n,rfl,f⟩
 ·have a:some []=some b:=a;simp only[ar]at a;subst a;simp
 ·rw[vX,gH,f];simp[a]
def so.qJ{h:H}{i:Nat}{d:T}{j:Nat}{a b:List T}(c:so h i d j a)(g:fN (xi h 11) a=some b):TI.qJ h d=some (sl b):=by
 rw[<-c.fz g];rcases c with⟨rfl,_⟩|⟨k,l,p,m,n,rfl,o⟩<;>rfl
@[simp] theorem X5 {cx:Ctx} {mask:Nat} {e:Env} {h:H} (a:List ah) (b c:ab):jp (.call ⟨.builtin .append,a.toArray,#[b,c]⟩) cx mask e h=dU (fN (fP cx mask e) a) λd=>(match d with| [f,g]=>iO cx h b c f g|_=>none):=rfl
def my{b:Nat}{a:List T}(c:∀e∈a,e.cells.length=b):fits b a=true:=by
 cases a with
 |nil=>rfl
 |cons e a=>
  show Nat.beq (kW e.cells) b=true;rw[jE,c e dA];simp
def o8{h:H}{b bytes:Nat}{a:List T}(f:∀e∈a,e.cells.length=b)(c:1<=bytes)(d:a.length*bytes<=70368744177664):
 h.jc b bytes [] a=some (.arr h.size 0 0 a.length false,h.cons ⟨b,0,0,false,false,a⟩):=by
 unfold H.jc;rw[pT,dX,jE,iE,dX,my f,my dA];simp[c,d]
def wg{h:H}{f bytes c d i:Nat}{j:Bool}{a b:List T}(g:h.get c=some ⟨f,d,i,j,false,a⟩)(m:∀e∈b,e.cells.length=f)(k:1<=bytes)(l:(a.length+b.length)*bytes<=70368744177664):
 h.mB f bytes c d a.length b=some (.arr c (d+1) 0 (a++b).length false,dY h c ⟨f,d+1,i+1,false,false,a++b⟩):=by
 unfold H.mB;rw[g];simp only[dX,nR,au,bh,aO,pT,jE,iE,my m,yv g];simp[k,l,aT]
def so.app{cx:Ctx}{h:H}{k:Nat}{c:T}{a:Nat}{d:List T}(o:so h k c a d)(w:k<=h.size){r s l:ab}{B C b:Ty}(F:cx.ty r=some B)(G:B.u= .slice l)(I:cx.ty l=some b)(J:cx.ty s=some C)(K:C.u= .slice l)(z:b.size=a)(v:1<=b.bytes)
 {x:T} {xs:List T} (M:h.jf x=some xs) (p:∀e∈xs,e.cells.length=a) (y:(d.length+xs.length)*b.bytes<=70368744177664):
 ∃D m,iO cx h r s c x=some (.val D m)/\so m k D a (d++xs)/\Fr k h m:=by
 have L:iO cx h r s c x=jA (h.append b.size b.bytes c xs):=by
  unfold iO pM mV;rw[F,dX,J,dX];simp only[G,I,K,M,dX];rw[z,my p,iu]
 rw[L,z];cases xs with
 |nil=>
  refine⟨c,h,?_,by simpa using o,Fr.refl _ _⟩;show jA (gD (oX c) (some (c,h)))=_;rcases o with⟨rfl,_⟩|⟨i,j,t,E,_,rfl,_⟩<;>rfl
 |cons f g=>
  rcases o with⟨rfl,rfl⟩|⟨i,j,t,E,A,rfl,q⟩
  ·refine⟨.arr h.size 0 0 (f::g).length false,h.cons ⟨a,0,0,false,false,f::g⟩,?_,.inr ⟨h.size,0,0,false,w,rfl,dA⟩,Fr.cons w _⟩;show jA (h.jc a b.bytes [] (f::g))=_;rw[o8 p v (by simpa using y)];rfl
  ·refine⟨.arr i (j+1) 0 (d++f::g).length false,dY h i ⟨a,j+1,t+1,false,false,d++f::g⟩,?_,.inr ⟨i,j+1,t+1,false,A,rfl,by rw[dP q,aq rfl]⟩,Fr.put q A _⟩;show jA (h.mB a b.bytes i j d.length (f::g))=_;rw[wg q p v y];rfl
def so.nd{cx:Ctx}{h:H}{c:Nat}{o:T}{a:Nat}{i:List T}(v:so h c o a i)(s:c<=h.size){j k:ab}{n d:Ty}(l:cx.ty j=some n)(m:n.u= .slice k)(p:cx.ty k=some d)(w:d.size=a)(q:1<=d.bytes)
 {e:T} (r:e.cells.length=a) (t:(i.length+1)*d.bytes<=70368744177664):
 ∃g b,iO cx (h.cons ⟨a,0,0,true,false,[e]⟩) j j o (.arr h.size 0 0 1 false)=some (.val g b)/\so b c g a (i++[e])/\Fr c h b:=by
 obtain⟨g,b,y,z,A⟩:=(v.cons ⟨a,0,0,true,false,[e]⟩).app (x:= .arr h.size 0 0 1 false) (xs:=[e]) dB l m p l m w q (by rw[gH];simp) (by simpa using r) (by simpa using t);exact⟨g,b,y,z,(Fr.cons s _).trans A⟩
@[simp] theorem PQ (h:H) (a:iZ):(h.cons a).low=h.low:=id rfl
@[simp] theorem B9 (h:H) (f c:iZ) (g:Nat) (j:g=h.size) (hl:h.low<=h.size):dY (h.cons f) g c=h.cons c:=by
 subst j;obtain⟨a,b,d⟩:=h;unfold dY;have:(H.cons ⟨a,b,d⟩ f).put a c=some (H.cons ⟨a,b,d⟩ c):=by
  show(gD (Nat.blt a (a+1)) (dU (kM (f::d) (Nat.sub (Nat.sub (a+1) 1) a) c) λi=> @Bool.rec (λ_=>aa H) (some ⟨a+1,b,i⟩) (some ⟨a+1,a,i⟩) (Nat.blt a b)))=some ⟨a+1,b,c::d⟩;rw[show Nat.blt a (a+1)=true by rw[aH];omega,iu,kO,show Nat.sub (Nat.sub (a+1) 1) a=0 by show a+1-1-a=0;omega];simp only[bj,Nat.zero_lt_succ,bh,cP,dX];rw[show Nat.blt a b=false by rw[cv];intro k;rw[aH]at k;simp at hl;omega]
 rw[this];rfl
@[simp] theorem aci (h:H) (i d:iZ) (a:Nat) (j:a<h.size):dY (h.cons i) a d=(dY h a d).cons i:=by
 obtain⟨b,c,f⟩:=h;have j:a<b:=j;have k:(H.cons ⟨b,c,f⟩ i).put a d=gD (Nat.blt a (b+1)) (dU (kM (i::f) (Nat.sub (Nat.sub (b+1) 1) a) d) λg=> @Bool.rec (λ_=>aa H) (some ⟨b+1,c,g⟩) (some ⟨b+1,a,g⟩) (Nat.blt a c)):=rfl;have l:(⟨b,c,f⟩:H).put a d=gD (Nat.blt a b) (dU (kM f (Nat.sub (Nat.sub b 1) a) d) λg=> @Bool.rec (λ_=>aa H) (some ⟨b,c,g⟩) (some ⟨b,a,g⟩) (Nat.blt a c)):=rfl;unfold dY;rw[k,l,show Nat.blt a (b+1)=true by rw[aH];omega,show Nat.blt a b=true by rw[aH];exact j,iu,iu,kO,kO,
  show Nat.sub (Nat.sub (b+1) 1) a=Nat.sub (Nat.sub b 1) a+1 by show b+1-1-a=b-1-a+1;omega]
 by_cases hl:Nat.sub (Nat.sub b 1) a<f.length
 ·rw[aq (by simpa using hl),aq hl,dX,dX];cases Nat.blt a c<;>rfl
 ·rw[ao (by simpa using hl),ao hl];rfl
def dZ(a:List T)(b:Nat)(c:List T):mr (.agg a) b c=dU (kT a b c) λd=>some (.agg d):=rfl
attribute [simp] dZ
@[simp] theorem XX (b:ak) (c:Int) (a:T):mr (.int b c) 0 [a]=some a:=id rfl
@[simp] theorem VA (b:Bool) (a:T):mr (.bool b) 0 [a]=some a:=id rfl
@[simp] theorem WB (a:Nat):lL [] a=false:=id rfl
@[simp] theorem US (b d a:Nat) (c:List (Nat×Nat)):lL ((b,d)::c) a=(decide (b=a)||lL c a):=by
 unfold lL;rw[List.any_cons];congr 1
@[simp] theorem aa9 (a b:Nat):Ai [] a b=false:=id rfl
@[simp] theorem Yh (c d a b:Nat) (f:List (Nat×Nat)):Ai ((c,d)::f) a b=((decide (c=a)&&decide (d=b))||Ai f a b):=by
 unfold Ai;rw[List.any_cons];congr 1
@[simp] theorem Kd (a:List (Nat×Nat)) (b:Nat) (h:H) (c:List (Nat×Nat)):vZ a b h h c=True:=by unfold vZ;simp
@[simp] theorem aaR {f:Type} (a b:Nat) (d:f) (c:List (Nat×f)):List.lookup a ((b,d)::c)=if a=b then some d else List.lookup a c:=by
 rw[List.lookup_cons];by_cases h:a=b
 ·subst h;simp
 ·rw[ao h,show(a==b)=false by simpa using h]
def Lw(a:T):Nat:=a.cells.length
@[simp] theorem adb (a:ak) (b:Int):Lw (.int a b)=1:=id rfl
@[simp] theorem abC (a:Bool):Lw (.bool a)=1:=id rfl
@[simp] theorem ada (a:List Nat):Lw (.str a)=1:=id rfl
def KR(cx:Ctx)(h:H)(c:Ty)(d:T)(f a b:aa Nat):aa lN:=gD (jr cx h c.u d) (gD (yG a b) (val h (po (asSlice c.u d) f a b)))
def X3(cx:Ctx)(mask:Nat)(e:Env)(a:aa ah):aa (aa Nat):=jP cx mask e a
section
variable {cx:Ctx}{mask:Nat}{e:Env}{h:H}
@[simp] theorem aaA:X3 cx mask e none=some none:=id rfl
@[simp] theorem aaz (a:ah):X3 cx mask e (some a)=dU (fP cx mask e a) λc=>dU (pV c) λb=>some (some b):=id rfl
@[simp] theorem aaC (g:ab) (a:ah) (d b c:aa ah):jp (.slice g a d b c) cx mask e h=dU (cx.ty g) λf=>dU (fP cx mask e a) λa=>dU (X3 cx mask e d) λd=>dU (X3 cx mask e b) λb=>dU (X3 cx mask e c) λc=>KR cx h f a d b c:=by
 show(dU (cx.ty g) λf=>dU (fP cx mask e a) λa=>gD (jr cx h f.u a)<|dU (jP cx mask e d) λd=>dU (jP cx mask e b) λb=>dU (jP cx mask e c) λc=>gD (yG b c) (val h (po (asSlice f.u a) d b c)))=_;unfold X3 KR;congr 1;funext f;congr 1;funext a;cases jr cx h f.u a with
 |true=>rfl
 |false=>
  simp only[Nf];cases jP cx mask e d<;>simp;cases jP cx mask e b<;>simp;cases jP cx mask e c<;>simp
def Tc{d:Type}(c:List d)(b a:Nat)(g:b<=a)(f:a<=c.length):Kl c b a=some ((c.drop b).take (a-b)):=by
 unfold Kl;rw[md,aq dz,dX,nR];rw[aq dB];rfl
def NZ(d:List T)(a b:Nat)(m:a<=b)(l:b<=d.length)(f c:aa Nat)(k:f7 f 0=a)(g:f7 c d.length=b):po (sl d) f c none=some (sl ((d.drop a).take (b-a))):=by
 cases d with
 |nil=>
  have n:b=0:=by simpa using l
  subst n;have o:a=0:=dz;subst o;show(gD (Nat.beq (f7 f 0) 0) (gD (Nat.beq (f7 c 0) 0) (some T.gu)))=_;have g:f7 c 0=0:=g;rw[k,g];rfl
 |cons j i=>
  show tN (j::i) false (f7 f 0) (f7 c (kW (j::i))) none=_;rw[jE,k,g];unfold tN;rw[Tc _ _ _ m l,dX,show Nat.ble a b=true by simpa using m,iu];cases (List.take (b-a) (List.drop a (j::i)))<;>rfl
def I9{d i:Ty}{f:ab}(g:d.u= .slice f)(ht:cx.ty f=some i){a:List T}(l:∀j∈a,j.cells.length=i.size){c b:aa Nat}(n:f7 c 0<=f7 b a.length)(m:f7 b a.length<=a.length):
 KR cx h d (sl a) c b none=some (.val (sl ((a.drop (f7 c 0)).take (f7 b a.length-f7 c 0))) h):=by
 unfold KR;have k:jr cx h d.u (sl a)=true:=by
  rw[g];unfold jr;simp only[ht];cases a with
  |nil=>rfl
  |cons j o=>exact my l
 rw[k,iu,show yG b none=true from rfl,iu,show asSlice d.u (sl a)=sl a by rw[g];rfl,NZ a _ _ n m c b rfl rfl];rfl
@[simp] theorem adH {j:Type} (i d:Ty) (g:ab) (a:j->T) (b:List j) (c:Nat) (m:i.u= .slice g) (ht:cx.ty g=some d) (k:∀n,Lw (a n)=d.size) (l:c<=b.length):KR cx h i (sl (b.map a)) none (some c) none=some (.val (sl ((b.take c).map a)) h):=by
 rw[I9 m ht (by simpa using λf _=>show(a f).cells.length=d.size from k f) (by simp[f7]) (by simpa[f7]using l)];simp[f7,List.map_take]
@[simp] theorem ZX {j:Type} (i d:Ty) (g:ab) (a:j->T) (b:List j) (c:Nat) (m:i.u= .slice g) (ht:cx.ty g=some d) (k:∀n,Lw (a n)=d.size) (l:c<=b.length):KR cx h i (sl (b.map a)) (some c) none none=some (.val (sl ((b.drop c).map a)) h):=by
 rw[I9 m ht (by simpa using λf _=>show(a f).cells.length=d.size from k f) (by simpa[f7]using l) (by simp[f7])];simp only[f7,aG,<-List.map_drop];rw[bJ dA]
@[simp] theorem ach {k:Type} (j f:Ty) (i:ab) (a:k->T) (d:List k) (c b:Nat) (o:j.u= .slice i) (ht:cx.ty i=some f) (l:∀p,Lw (a p)=f.size) (n:c<=b) (m:b<=d.length):KR cx h j (sl (d.map a)) (some c) (some b) none=some (.val (sl (((d.drop c).take (b-c)).map a)) h):=by
 rw[I9 o ht (by simpa using λg _=>show(a g).cells.length=f.size from l g) (by simpa[f7]using n) (by simpa[f7]using m)];simp[f7,List.map_take,List.map_drop]
@[simp] theorem KQ (g k:Ty) (i:ab) (a c f d b:Nat) (s:Bool) (l:iZ) (j:g.u= .slice i) (ht:cx.ty i=some k) (n:h.get a=some l) (p:l.sz=k.size) (o:b<=d):KR cx h g (.arr a c f d false) none (some b) none=some (.val (.arr a c f b false) h):=by
 unfold KR;have m:jr cx h g.u (.arr a c f d false)=true:=by
  rw[j];unfold jr;simp only[ht,n,p,Nat.beq_refl]
 rw[m,iu,show yG (some b) none=true from rfl,iu,show asSlice g.u (.arr a c f d false)= .arr a c f d false by rw[j];rfl];show val h (gD (Nat.ble 0 b) (gD (Nat.ble b d) (dU (gY (Nat.add f 0)) λr=>dU (gY (Nat.sub b 0)) λq=>some (T.arr a c r q false))))=_;simp[o]
def Yp(cx:Ctx)(h:H)(d b:ab)(c:Ty)(a:T):aa lN:=match c.u with
 | .slice _=>val h (Df cx b a)
 | .str=>(match a with
  | .str _=>val h (conv cx b a)
  |_=>val h (GY cx h d a))
 |_=>val h (conv cx b a)
@[simp] theorem V7 (b a:ab) (c:ah):jp (.convert b a c) cx mask e h=dU (cx.ty b) λ_=>dU (fP cx mask e c) λd=>dU (cx.ty a) λf=>Yp cx h b a f d:=rfl
def Gp{k d:ab}{b:Ty}{c g:ak}{a:Int}(i:cx.ty d=some b)(f:b.u= .int c)(j:KG c a=a):Yp cx h k d b (.int g a)=some (.val (.int c a) h):=by
 unfold Yp;rw[f];show val h (dU (cx.ty d) λb=>match b.u with
  | .int c=>(match(T.int g a)with| .int _ a=>pY c a|_=>none)
  | .str=>_
  |_=>none)=_
 rw[i,dX,f];simp[pY,j]
@[simp] theorem ac9 (k c:ab) (b:Ty) (j:ak) (a:Int) (g:cx.ty c=some b) (i:b.u= .int .i64) (d: -9223372036854775808<=a) (f:a<9223372036854775808):Yp cx h k c b (.int j a)=some (.val (.int .i64 a) h):=Gp g i (jI d f)
@[simp] theorem Sr (f:ab) (a b:ah):jp (.makeSlice f a b) cx mask e h=dU (cx.ty f) λd=>(match d.u with
 | .slice g=>dU (cx.ty g) λc=>dU (fP cx mask e a) λa=>dU (fP cx mask e b) λb=>dU (pV a) λa=>dU (pV b) λb=>
  gD (decide (1<=c.size))<|gD (decide (1<=c.bytes))<|gD (decide (a<=b)) (gD (decide (b*c.bytes<=70368744177664)) (some (.val (.arr h.size 0 0 a false) (h.cons ⟨c.size,0,0,decide (a=b),false,List.replicate a c.kf⟩))))
 |_=>none):=by
 show(dU (cx.ty f) λd=>_)=_;congr 1;funext d;cases d.u<;>first|rfl|skip
 rename_i g;simp only[nT,H.kI,LL,uV,EI,AD];rfl
@[simp] theorem UK (b:aj) (a:List ah):jp (.makeFunc (.func b) #[] a.toArray) cx mask e h=dU (fN (fP cx mask e) a) λc=>some (.val (.func b c) h):=by
 show(dU (p9 cx mask e a) λa=>val h (some (T.func b a)))=_;simp
end
def so.TA{cx:Ctx}{h:H}{d:Nat}{q:T}{c:Nat}{k:Type}{a:k->T}{i:List k}(y:so h d q c (i.map a))(v:d<=h.size){j m:ab}{p f:Ty}(n:cx.ty j=some p)(o:p.u= .slice m)(r:cx.ty m=some f)(z:f.size=c)(s:1<=f.bytes)
 (t:∀x,Lw (a x)=c) (xs:List k) (w:(i.length+xs.length)*f.bytes<=70368744177664):
 ∃g b,iO cx h j j q (sl (xs.map a))=some (.val g b)/\so b d g c ((i++xs).map a)/\Fr d h b:=by
 obtain⟨g,b,A,B,C⟩:=y.app (x:=sl (xs.map a)) (xs:=xs.map a) v n o r n o z s dA (by simpa using λl _=>show(a l).cells.length=c from t l) (by simpa using w);exact⟨g,b,A,by rw[List.map_append];exact B,C⟩
def so.QZ{cx:Ctx}{h:H}{f:Nat}{o:T}{d:Nat}{l:Type}{b:l->T}{j:List l}(x:so h f o d (j.map b))(v:f<=h.size){k m:ab}{n g:Ty}(p:cx.ty k=some n)(q:n.u= .slice m)(r:cx.ty m=some g)(y:g.size=d)(s:1<=g.bytes)
 (t:∀a,Lw (b a)=d) (a:l) (w:(j.length+1)*g.bytes<=70368744177664):
 ∃i c,iO cx (h.cons ⟨d,0,0,true,false,[b a]⟩) k k o (.arr h.size 0 0 1 false)=some (.val i c)/\so c f i d ((j++[a]).map b)/\Fr f h c:=by
 obtain⟨i,c,z,A,B⟩:=x.nd v p q r y s (e:=b a) (t a) (by simpa using w);exact⟨i,c,z,by rw[List.map_append];exact A,B⟩
def so.fzM{h:H}{j:Nat}{b:T}{k:Nat}{d:Type}{f:d->T}{a:List d}(i:so h j b k (a.map f))(g:∀c,xi h 11 (f c)=some (f c)):TI.qJ h b=some (sl (a.map f)):=i.qJ (Cu _ _ _ g)
def iv{c:ai}{cx:Ctx}{tb:fJ}{b:hU}(l:c.follows .mixedOrders=true)(ja:jg c cx){g:aj}{d:Func}{mask:Nat}{f:DL}(o:GM c cx g d mask f)(i:b.α->Nat)(hl:∀a,mP (b.A a)=true)(m:∀a,(b.A a).length<=d.ntmps)
 (n:∀a,b.pre a->∀j,nM j 0 (b.A a)->W (jB cx (qZ c cx tb) (i a) mask f (d.body.getD .skip) ⟨j,.nil⟩ hE) (CC cx mask d.results.toList λp h=>Rm h p (b.R a))):b.Ok c cx g:=
 λa k=>YN l ja o (C9 c cx tb) (hl a) (m a) (i a) (n a k)
attribute [simp] QB
end
noncomputable section
abbrev rh(a:T)(c:List T)(g:Nat):Prop:=a.cells=c/\Lw a=g/\(∀d e,mr a d e=dU (kT c d e) λh=>some (.agg h))/\a.il=true/\cn a=a/\(∀b,qJ b a=some a)/\(∀b f,xi b (f+2) a=some a)/\jW a=true/\m6 a=true
def mT{a b:List Nat}:T.str a=T.str b->a=b:=dA 
def ir{c:ak}{a b:Int}:T.int c a=T.int c b->a=b:=dA 
def sW{a b:Bool}:T.bool a=T.bool b->a=b:=dA 
def iA{f:Type}{a:f->T}(h:∀d e,a d=a e->d=e)(b c:List f)(g:sl (b.map a)=sl (c.map a)):b=c:=jD h g
def A9(b:U)(a:Nat)(c:T):Ty:=⟨b,1,a,false,[c]⟩
def tK(d:List (Nat×Nat))(c a:Nat)(b:Bool)(e:List T):Ty:=⟨.struct d,c,a,b,e⟩
def RG(d c e a:Nat)(b:Bool)(f:List T):Ty:=⟨.array d c,e,a,b,f⟩
@[simp] theorem ae5 (b:U) (a:Nat) (c:T):(A9 b a c).size=1/\(A9 b a c).bytes=a/\(A9 b a c).u=b:=⟨rfl,rfl,rfl⟩
@[simp] theorem afa (d:List (Nat×Nat)) (a c:Nat) (e:Bool) (b:List T):(tK d a c e b).size=a/\(tK d a c e b).bytes=c/\(tK d a c e b).u= .struct d/\(tK d a c e b).kf= .agg b/\(tK d a c e b).zero=b/\∀f,kl (tK d a c e b) f=dU (takeN a f) λg=>some (.agg g):=⟨rfl,rfl,rfl,rfl,rfl,λ_=>rfl⟩
abbrev NO(a:ak)(b:Nat):Ty:=A9 (.int a) b (.int a 0)
abbrev tyB:Ty:=A9 .bool 1 (.bool false)
abbrev tyZ:Ty:=A9 .str 16 (.str [])
abbrev A8(a:Nat):Ty:=A9 (.slice a) 24 (.dM [] false)
abbrev ND(a:Nat):Ty:=A9 (.ptr a) 8 .kx
@[simp] theorem ae7 (d:ak) (c:Nat) (b:T):(A9 (.int d) c b).kf=b/\∀a,kl (A9 (.int d) c b) a=a[0]? :=⟨rfl,λa=>kE a 0⟩
@[simp] theorem ae9 (c:Nat) (b:T):(A9 .bool c b).kf=b/\∀a,kl (A9 .bool c b) a=a[0]? :=⟨rfl,λa=>kE a 0⟩
@[simp] theorem ae3 (c:Nat) (b:T):(A9 .str c b).kf=b/\∀a,kl (A9 .str c b) a=a[0]? :=⟨rfl,λa=>kE a 0⟩
@[simp] theorem ae4 (d c:Nat) (b:T):(A9 (.slice d) c b).kf=b/\∀a,kl (A9 (.slice d) c b) a=a[0]? :=⟨rfl,λa=>kE a 0⟩
@[simp] theorem ae6 (d c:Nat) (b:T):(A9 (.ptr d) c b).kf=b/\∀a,kl (A9 (.ptr d) c b) a=a[0]? :=⟨rfl,λa=>kE a 0⟩
@[simp] theorem ae8 (c:Nat) (b:T):(A9 .func c b).kf=b/\∀a,kl (A9 .func c b) a=a[0]? :=⟨rfl,λa=>kE a 0⟩
def iR{b:ai}{cx:Ctx}{d:aj}{a:Func}(e:Nat)(c:DL)(f:b.funcs[d]? =some a)(g:xg ⟨a,e,false,none⟩=true:=by kernel_rfl)(h:mR c (a.body.getD .skip)=true:=by kernel_rfl):GM b cx d a e c:=⟨f,g,h⟩
def gq(cx:Ctx)(c:Func)(f:Nat)(e:Bool):qp:=λb g a d=>sX cx b g c f e a d
def aey{a:ai}{cx:Ctx}(g:a.follows .mixedOrders=true)(ja:jg a cx){e:aj}{b:Func}{d:Nat}{c:Bool}(f:a.funcs[e]? =some b)(h:xg ⟨b,d,c,none⟩=true:=by kernel_rfl):mp a cx e (gq cx b d c):=pF (F:=⟨b,d,c,none⟩) g ja f h
end
end Go.TI
namespace Go.Proofs.YtmaeadedikngoaaGreatDoor
noncomputable section
open Go Go.TI
structure ij where
 name:List Nat
 index:Int
 size:Int
 tJ:Bool
 jY:Int
 deriving DecidableEq,Inhabited
def ij.cs(a:ij):List T:=[.str a.name,dE a.index,dE a.size,.bool a.tJ,dE a.jY]
def ij.t(a:ij):T:= .agg a.cs
@[simp] theorem ij.ag (a:ij):rh a.t [.str a.name,dE a.index,dE a.size,.bool a.tJ,dE a.jY] 5:=by
 unfold ij.t ij.cs;exact⟨rfl,rfl,λ_ _=>rfl,rfl,by simp[jS],λ_=>by simp,λ_ _=>by simp,dA,dA⟩
@[simp] theorem ij.fold (a0:List Nat) (a1:Int) (a2:Int) (a3:Bool) (a4:Int):T.agg [.str a0,dE a1,dE a2,.bool a3,dE a4]=ij.t ⟨a0,a1,a2,a3,a4⟩:=rfl
@[simp] theorem ij.eta (a:ij):ij.mk a.name a.index a.size a.tJ a.jY=a:=rfl
def ij.inj{a b:ij}(c:a.t=b.t):a=b:=by
 rcases a with⟨_,_,_,_,_⟩;rcases b with⟨_,_,_,_,_⟩;simp only[ij.t,ij.cs,T.agg.injEq,aL]at c;obtain⟨d,e,f,g,h,_⟩:=c;obtain rfl:=mT d;obtain rfl:=ir e;obtain rfl:=ir f;obtain rfl:=sW g;obtain rfl:=ir h;rfl
structure iF where
 name:List Nat
 rW:Bool
 deriving DecidableEq,Inhabited
def iF.cs(a:iF):List T:=[.str a.name,.bool a.rW]
def iF.t(a:iF):T:= .agg a.cs
@[simp] theorem iF.ag (a:iF):rh a.t [.str a.name,.bool a.rW] 2:=by
 unfold iF.t iF.cs;exact⟨rfl,rfl,λ_ _=>rfl,rfl,by simp[jS],λ_=>by simp,λ_ _=>by simp,dA,dA⟩
@[simp] theorem iF.fold (a0:List Nat) (a1:Bool):T.agg [.str a0,.bool a1]=iF.t ⟨a0,a1⟩:=rfl
@[simp] theorem iF.eta (a:iF):iF.mk a.name a.rW=a:=rfl
def iF.inj{a b:iF}(c:a.t=b.t):a=b:=by
 rcases a with⟨_,_⟩;rcases b with⟨_,_⟩;simp only[iF.t,iF.cs,T.agg.injEq,aL]at c;obtain⟨d,e,_⟩:=c;obtain rfl:=mT d;obtain rfl:=sW e;rfl
structure iU where
 name:List Nat
 kJ:Int
 deriving DecidableEq,Inhabited
def iU.cs(a:iU):List T:=[.str a.name,dE a.kJ]
def iU.t(a:iU):T:= .agg a.cs
@[simp] theorem iU.ag (a:iU):rh a.t [.str a.name,dE a.kJ] 2:=by
 unfold iU.t iU.cs;exact⟨rfl,rfl,λ_ _=>rfl,rfl,by simp[jS],λ_=>by simp,λ_ _=>by simp,dA,dA⟩
@[simp] theorem iU.fold (a0:List Nat) (a1:Int):T.agg [.str a0,dE a1]=iU.t ⟨a0,a1⟩:=rfl
@[simp] theorem iU.eta (a:iU):iU.mk a.name a.kJ=a:=rfl
def iU.inj{a b:iU}(c:a.t=b.t):a=b:=by
 rcases a with⟨_,_⟩;rcases b with⟨_,_⟩;simp only[iU.t,iU.cs,T.agg.injEq,aL]at c;obtain⟨d,e,_⟩:=c;obtain rfl:=mT d;obtain rfl:=ir e;rfl
structure iH where
 dT:Int
 stmt:Int
 uL:Int
 deriving DecidableEq,Inhabited
def iH.cs(a:iH):List T:=[dE a.dT,dE a.stmt,dE a.uL]
def iH.t(a:iH):T:= .agg a.cs
@[simp] theorem iH.ag (a:iH):rh a.t [dE a.dT,dE a.stmt,dE a.uL] 3:=by
 unfold iH.t iH.cs;exact⟨rfl,rfl,λ_ _=>rfl,rfl,by simp[jS],λ_=>by simp,λ_ _=>by simp,dA,dA⟩
@[simp] theorem iH.fold (a0:Int) (a1:Int) (a2:Int):T.agg [dE a0,dE a1,dE a2]=iH.t ⟨a0,a1,a2⟩:=rfl
@[simp] theorem iH.eta (a:iH):iH.mk a.dT a.stmt a.uL=a:=rfl
def iH.inj{a b:iH}(c:a.t=b.t):a=b:=by
 rcases a with⟨_,_,_⟩;rcases b with⟨_,_,_⟩;simp only[iH.t,iH.cs,T.agg.injEq,aL]at c;obtain⟨d,e,f,_⟩:=c;obtain rfl:=ir d;obtain rfl:=ir e;obtain rfl:=ir f;rfl
structure d8 where
 cells:List ij
 em:List iF
 gW:List iU
 eg:List (List Nat)
 dK:List (List Nat)
 iG:List iH
 deriving DecidableEq,Inhabited
def d8.cs(a:d8):List T:=[sl (a.cells.map ij.t),sl (a.em.map iF.t),sl (a.gW.map iU.t),sl (a.eg.map T.str),sl (a.dK.map T.str),sl (a.iG.map iH.t)]
def d8.t(a:d8):T:= .agg a.cs
@[simp] theorem d8.ag (a:d8):rh a.t [sl (a.cells.map ij.t),sl (a.em.map iF.t),sl (a.gW.map iU.t),sl (a.eg.map T.str),sl (a.dK.map T.str),sl (a.iG.map iH.t)] 6:=by
 unfold d8.t d8.cs;exact⟨rfl,rfl,λ_ _=>rfl,rfl,by simp[jS],λ_=>by simp,λ_ _=>by simp,dA,dA⟩
@[simp] theorem d8.fold (a0:List ij) (a1:List iF) (a2:List iU) (a3:List (List Nat)) (a4:List (List Nat)) (a5:List iH):T.agg [sl (a0.map ij.t),sl (a1.map iF.t),sl (a2.map iU.t),sl (a3.map T.str),sl (a4.map T.str),sl (a5.map iH.t)]=d8.t ⟨a0,a1,a2,a3,a4,a5⟩:=rfl
@[simp] theorem d8.eta (a:d8):d8.mk a.cells a.em a.gW a.eg a.dK a.iG=a:=rfl
def d8.inj{a b:d8}(c:a.t=b.t):a=b:=by
 rcases a with⟨_,_,_,_,_,_⟩;rcases b with⟨_,_,_,_,_,_⟩;simp only[d8.t,d8.cs,T.agg.injEq,aL]at c;obtain⟨d,e,f,g,h,i,_⟩:=c;obtain rfl:=iA (λ_ _=>ij.inj) _ _ d;obtain rfl:=iA (λ_ _=>iF.inj) _ _ e;obtain rfl:=iA (λ_ _=>iU.inj) _ _ f;obtain rfl:=iA (λ_ _=>mT) _ _ g;obtain rfl:=iA (λ_ _=>mT) _ _ h;obtain rfl:=iA (λ_ _=>iH.inj) _ _ i;rfl
structure ed where
 iX:Int
 eJ:List Int
 deriving DecidableEq,Inhabited
def ed.cs(a:ed):List T:=[dE a.iX,sl (a.eJ.map (T.int .i64))]
def ed.t(a:ed):T:= .agg a.cs
@[simp] theorem ed.ag (a:ed):rh a.t [dE a.iX,sl (a.eJ.map (T.int .i64))] 2:=by
 unfold ed.t ed.cs;exact⟨rfl,rfl,λ_ _=>rfl,rfl,by simp[jS],λ_=>by simp,λ_ _=>by simp,dA,dA⟩
@[simp] theorem ed.fold (a0:Int) (a1:List Int):T.agg [dE a0,sl (a1.map (T.int .i64))]=ed.t ⟨a0,a1⟩:=rfl
@[simp] theorem ed.eta (a:ed):ed.mk a.iX a.eJ=a:=rfl
def ed.inj{a b:ed}(c:a.t=b.t):a=b:=by
 rcases a with⟨_,_⟩;rcases b with⟨_,_⟩;simp only[ed.t,ed.cs,T.agg.injEq,aL]at c;obtain⟨d,e,_⟩:=c;obtain rfl:=ir d;obtain rfl:=iA (λ_ _=>ir) _ _ e;rfl
structure dN where
 iL:Int
 cond:Int
 atomic:Bool
 deriving DecidableEq,Inhabited
def dN.cs(a:dN):List T:=[dE a.iL,dE a.cond,.bool a.atomic]
def dN.t(a:dN):T:= .agg a.cs
@[simp] theorem dN.ag (a:dN):rh a.t [dE a.iL,dE a.cond,.bool a.atomic] 3:=by
 unfold dN.t dN.cs;exact⟨rfl,rfl,λ_ _=>rfl,rfl,by simp[jS],λ_=>by simp,λ_ _=>by simp,dA,dA⟩
@[simp] theorem dN.fold (a0:Int) (a1:Int) (a2:Bool):T.agg [dE a0,dE a1,.bool a2]=dN.t ⟨a0,a1,a2⟩:=rfl
@[simp] theorem dN.eta (a:dN):dN.mk a.iL a.cond a.atomic=a:=rfl
def dN.inj{a b:dN}(c:a.t=b.t):a=b:=by
 rcases a with⟨_,_,_⟩;rcases b with⟨_,_,_⟩;simp only[dN.t,dN.cs,T.agg.injEq,aL]at c;obtain⟨d,e,f,_⟩:=c;obtain rfl:=ir d;obtain rfl:=ir e;obtain rfl:=sW f;rfl
structure fH where
 em:List ed
 tx:Int
 done:List Bool
 dK:List dN
 deriving DecidableEq,Inhabited
def fH.cs(a:fH):List T:=[sl (a.em.map ed.t),dE a.tx,sl (a.done.map T.bool),sl (a.dK.map dN.t)]
def fH.t(a:fH):T:= .agg a.cs
@[simp] theorem fH.ag (a:fH):rh a.t [sl (a.em.map ed.t),dE a.tx,sl (a.done.map T.bool),sl (a.dK.map dN.t)] 4:=by
 unfold fH.t fH.cs;exact⟨rfl,rfl,λ_ _=>rfl,rfl,by simp[jS],λ_=>by simp,λ_ _=>by simp,dA,dA⟩
@[simp] theorem fH.fold (a0:List ed) (a1:Int) (a2:List Bool) (a3:List dN):T.agg [sl (a0.map ed.t),dE a1,sl (a2.map T.bool),sl (a3.map dN.t)]=fH.t ⟨a0,a1,a2,a3⟩:=rfl
@[simp] theorem fH.eta (a:fH):fH.mk a.em a.tx a.done a.dK=a:=rfl
def fH.inj{a b:fH}(c:a.t=b.t):a=b:=by
 rcases a with⟨_,_,_,_⟩;rcases b with⟨_,_,_,_⟩;simp only[fH.t,fH.cs,T.agg.injEq,aL]at c;obtain⟨d,e,f,g,_⟩:=c;obtain rfl:=iA (λ_ _=>ed.inj) _ _ d;obtain rfl:=ir e;obtain rfl:=iA (λ_ _=>sW) _ _ f;obtain rfl:=iA (λ_ _=>dN.inj) _ _ g;rfl
structure ej where
 fM:fH
 cells:List Int
 eg:List Int
 count:List Int
 deriving DecidableEq,Inhabited
def ej.cs(a:ej):List T:=[sl (a.fM.em.map ed.t),dE a.fM.tx,sl (a.fM.done.map T.bool),sl (a.fM.dK.map dN.t),sl (a.cells.map (T.int .i64)),sl (a.eg.map (T.int .i64)),sl (a.count.map (T.int .i64))]
def ej.t(a:ej):T:= .agg a.cs
@[simp] theorem ej.ag (a:ej):rh a.t [sl (a.fM.em.map ed.t),dE a.fM.tx,sl (a.fM.done.map T.bool),sl (a.fM.dK.map dN.t),sl (a.cells.map (T.int .i64)),sl (a.eg.map (T.int .i64)),sl (a.count.map (T.int .i64))] 7:=by
 unfold ej.t ej.cs;exact⟨rfl,rfl,λ_ _=>rfl,rfl,by simp[jS],λ_=>by simp,λ_ _=>by simp,dA,dA⟩
@[simp] theorem ej.fold (a0:List ed) (a1:Int) (a2:List Bool) (a3:List dN) (a4:List Int) (a5:List Int) (a:List Int):T.agg [sl (a0.map ed.t),dE a1,sl (a2.map T.bool),sl (a3.map dN.t),sl (a4.map (T.int .i64)),sl (a5.map (T.int .i64)),sl (a.map (T.int .i64))]=ej.t ⟨⟨a0,a1,a2,a3⟩,a4,a5,a⟩:=rfl
@[simp] theorem ej.eta (a:ej):ej.mk a.fM a.cells a.eg a.count=a:=rfl
def ej.inj{a b:ej}(c:a.t=b.t):a=b:=by
 rcases a with⟨⟨_,_,_,_⟩,_,_,_⟩;rcases b with⟨⟨_,_,_,_⟩,_,_,_⟩;simp only[ej.t,ej.cs,T.agg.injEq,aL]at c;obtain⟨d,e,f,g,h,i,j,_⟩:=c;obtain rfl:=iA (λ_ _=>ed.inj) _ _ d;obtain rfl:=ir e;obtain rfl:=iA (λ_ _=>sW) _ _ f;obtain rfl:=iA (λ_ _=>dN.inj) _ _ g;obtain rfl:=iA (λ_ _=>ir) _ _ h;obtain rfl:=iA (λ_ _=>ir) _ _ i;obtain rfl:=iA (λ_ _=>ir) _ _ j;rfl
structure ez where
 dT:Int
 kind:Int
 obj:Int
 value:Int
 jk:Int
 mN:List Int
 vh:List Int
 deriving DecidableEq,Inhabited
def ez.cs(a:ez):List T:=[dE a.dT,dE a.kind,dE a.obj,dE a.value,dE a.jk,sl (a.mN.map (T.int .i64)),sl (a.vh.map (T.int .i64))]
def ez.t(a:ez):T:= .agg a.cs
@[simp] theorem ez.ag (a:ez):rh a.t [dE a.dT,dE a.kind,dE a.obj,dE a.value,dE a.jk,sl (a.mN.map (T.int .i64)),sl (a.vh.map (T.int .i64))] 7:=by
 unfold ez.t ez.cs;exact⟨rfl,rfl,λ_ _=>rfl,rfl,by simp[jS],λ_=>by simp,λ_ _=>by simp,dA,dA⟩
@[simp] theorem ez.fold (a0:Int) (a1:Int) (a2:Int) (a3:Int) (a4:Int) (a5:List Int) (a:List Int):T.agg [dE a0,dE a1,dE a2,dE a3,dE a4,sl (a5.map (T.int .i64)),sl (a.map (T.int .i64))]=ez.t ⟨a0,a1,a2,a3,a4,a5,a⟩:=rfl
@[simp] theorem ez.eta (a:ez):ez.mk a.dT a.kind a.obj a.value a.jk a.mN a.vh=a:=rfl
def ez.inj{a b:ez}(c:a.t=b.t):a=b:=by
 rcases a with⟨_,_,_,_,_,_,_⟩;rcases b with⟨_,_,_,_,_,_,_⟩;simp only[ez.t,ez.cs,T.agg.injEq,aL]at c;obtain⟨d,e,f,g,h,i,j,_⟩:=c;obtain rfl:=ir d;obtain rfl:=ir e;obtain rfl:=ir f;obtain rfl:=ir g;obtain rfl:=ir h;obtain rfl:=iA (λ_ _=>ir) _ _ i;obtain rfl:=iA (λ_ _=>ir) _ _ j;rfl
structure eZ where
 fj:d8
 start:Int
 jY:ej
 dO:List ez
 deriving DecidableEq,Inhabited
def eZ.cs(a:eZ):List T:=[sl (a.fj.cells.map ij.t),sl (a.fj.em.map iF.t),sl (a.fj.gW.map iU.t),sl (a.fj.eg.map T.str),sl (a.fj.dK.map T.str),sl (a.fj.iG.map iH.t),dE a.start,sl (a.jY.fM.em.map ed.t),dE a.jY.fM.tx,sl (a.jY.fM.done.map T.bool),sl (a.jY.fM.dK.map dN.t),sl (a.jY.cells.map (T.int .i64)),sl (a.jY.eg.map (T.int .i64)),sl (a.jY.count.map (T.int .i64)),sl (a.dO.map ez.t)]
def eZ.t(a:eZ):T:= .agg a.cs
@[simp] theorem eZ.ag (a:eZ):rh a.t [sl (a.fj.cells.map ij.t),sl (a.fj.em.map iF.t),sl (a.fj.gW.map iU.t),sl (a.fj.eg.map T.str),sl (a.fj.dK.map T.str),sl (a.fj.iG.map iH.t),dE a.start,sl (a.jY.fM.em.map ed.t),dE a.jY.fM.tx,sl (a.jY.fM.done.map T.bool),sl (a.jY.fM.dK.map dN.t),sl (a.jY.cells.map (T.int .i64)),sl (a.jY.eg.map (T.int .i64)),sl (a.jY.count.map (T.int .i64)),sl (a.dO.map ez.t)] 15:=by
 unfold eZ.t eZ.cs;exact⟨rfl,rfl,λ_ _=>rfl,rfl,by simp[jS],λ_=>by simp,λ_ _=>by simp,dA,dA⟩
@[simp] theorem eZ.fold (a0:List ij) (a1:List iF) (a2:List iU) (a3:List (List Nat)) (a4:List (List Nat)) (a5:List iH) (f:Int) (g:List ed) (h:Int) (i:List Bool) (a:List dN) (b:List Int) (c:List Int) (d:List Int) (e:List ez):T.agg [sl (a0.map ij.t),sl (a1.map iF.t),sl (a2.map iU.t),sl (a3.map T.str),sl (a4.map T.str),sl (a5.map iH.t),dE f,sl (g.map ed.t),dE h,sl (i.map T.bool),sl (a.map dN.t),sl (b.map (T.int .i64)),sl (c.map (T.int .i64)),sl (d.map (T.int .i64)),sl (e.map ez.t)]=eZ.t ⟨⟨a0,a1,a2,a3,a4,a5⟩,f,⟨⟨g,h,i,a⟩,b,c,d⟩,e⟩:=rfl
@[simp] theorem eZ.eta (a:eZ):eZ.mk a.fj a.start a.jY a.dO=a:=rfl
def eZ.inj{a b:eZ}(c:a.t=b.t):a=b:=by
 rcases a with⟨⟨_,_,_,_,_,_⟩,_,⟨⟨_,_,_,_⟩,_,_,_⟩,_⟩;rcases b with⟨⟨_,_,_,_,_,_⟩,_,⟨⟨_,_,_,_⟩,_,_,_⟩,_⟩;simp only[eZ.t,eZ.cs,T.agg.injEq,aL]at c;obtain⟨d,e,k,l,m,n,o,p,q,r,f,g,h,i,j,_⟩:=c;obtain rfl:=iA (λ_ _=>ij.inj) _ _ d;obtain rfl:=iA (λ_ _=>iF.inj) _ _ e;obtain rfl:=iA (λ_ _=>iU.inj) _ _ k;obtain rfl:=iA (λ_ _=>mT) _ _ l;obtain rfl:=iA (λ_ _=>mT) _ _ m;obtain rfl:=iA (λ_ _=>iH.inj) _ _ n;obtain rfl:=ir o;obtain rfl:=iA (λ_ _=>ed.inj) _ _ p;obtain rfl:=ir q;obtain rfl:=iA (λ_ _=>sW) _ _ r;obtain rfl:=iA (λ_ _=>dN.inj) _ _ f;obtain rfl:=iA (λ_ _=>ir) _ _ g;obtain rfl:=iA (λ_ _=>ir) _ _ h;obtain rfl:=iA (λ_ _=>ir) _ _ i;obtain rfl:=iA (λ_ _=>ez.inj) _ _ j;rfl
structure f6 where
 kind:Int
 a:Int
 b:Int
 c:Int
 d:Int
 jJ:List Int
 deriving DecidableEq,Inhabited
def f6.cs(e:f6):List T:=[dE e.kind,dE e.a,dE e.b,dE e.c,dE e.d,sl (e.jJ.map (T.int .i64))]
def f6.t(a:f6):T:= .agg a.cs
@[simp] theorem f6.ag (e:f6):rh e.t [dE e.kind,dE e.a,dE e.b,dE e.c,dE e.d,sl (e.jJ.map (T.int .i64))] 6:=by
 unfold f6.t f6.cs;exact⟨rfl,rfl,λ_ _=>rfl,rfl,by simp[jS],λ_=>by simp,λ_ _=>by simp,dA,dA⟩
@[simp] theorem f6.fold (a0:Int) (a1:Int) (a2:Int) (a3:Int) (a4:Int) (a5:List Int):T.agg [dE a0,dE a1,dE a2,dE a3,dE a4,sl (a5.map (T.int .i64))]=f6.t ⟨a0,a1,a2,a3,a4,a5⟩:=rfl
@[simp] theorem f6.eta (e:f6):f6.mk e.kind e.a e.b e.c e.d e.jJ=e:=rfl
def f6.inj{a b:f6}(c:a.t=b.t):a=b:=by
 rcases a with⟨_,_,_,_,_,_⟩;rcases b with⟨_,_,_,_,_,_⟩;simp only[f6.t,f6.cs,T.agg.injEq,aL]at c;obtain⟨d,e,f,g,h,i,_⟩:=c;obtain rfl:=ir d;obtain rfl:=ir e;obtain rfl:=ir f;obtain rfl:=ir g;obtain rfl:=ir h;obtain rfl:=iA (λ_ _=>ir) _ _ i;rfl
structure kc where
 fj:d8
 dO:List ez
 deriving DecidableEq,Inhabited
def kc.cs(a:kc):List T:=[sl (a.fj.cells.map ij.t),sl (a.fj.em.map iF.t),sl (a.fj.gW.map iU.t),sl (a.fj.eg.map T.str),sl (a.fj.dK.map T.str),sl (a.fj.iG.map iH.t),sl (a.dO.map ez.t)]
def kc.t(a:kc):T:= .agg a.cs
@[simp] theorem kc.ag (a:kc):rh a.t [sl (a.fj.cells.map ij.t),sl (a.fj.em.map iF.t),sl (a.fj.gW.map iU.t),sl (a.fj.eg.map T.str),sl (a.fj.dK.map T.str),sl (a.fj.iG.map iH.t),sl (a.dO.map ez.t)] 7:=by
 unfold kc.t kc.cs;exact⟨rfl,rfl,λ_ _=>rfl,rfl,by simp[jS],λ_=>by simp,λ_ _=>by simp,dA,dA⟩
@[simp] theorem kc.fold (a0:List ij) (a1:List iF) (a2:List iU) (a3:List (List Nat)) (a4:List (List Nat)) (a5:List iH) (a:List ez):T.agg [sl (a0.map ij.t),sl (a1.map iF.t),sl (a2.map iU.t),sl (a3.map T.str),sl (a4.map T.str),sl (a5.map iH.t),sl (a.map ez.t)]=kc.t ⟨⟨a0,a1,a2,a3,a4,a5⟩,a⟩:=rfl
@[simp] theorem kc.eta (a:kc):kc.mk a.fj a.dO=a:=rfl
def kc.inj{a b:kc}(c:a.t=b.t):a=b:=by
 rcases a with⟨⟨_,_,_,_,_,_⟩,_⟩;rcases b with⟨⟨_,_,_,_,_,_⟩,_⟩;simp only[kc.t,kc.cs,T.agg.injEq,aL]at c;obtain⟨d,e,f,g,h,i,j,_⟩:=c;obtain rfl:=iA (λ_ _=>ij.inj) _ _ d;obtain rfl:=iA (λ_ _=>iF.inj) _ _ e;obtain rfl:=iA (λ_ _=>iU.inj) _ _ f;obtain rfl:=iA (λ_ _=>mT) _ _ g;obtain rfl:=iA (λ_ _=>mT) _ _ h;obtain rfl:=iA (λ_ _=>iH.inj) _ _ i;obtain rfl:=iA (λ_ _=>ez.inj) _ _ j;rfl
structure fI where
 w:eZ
 BT:List fH
 deriving DecidableEq,Inhabited
def fI.cs(a:fI):List T:=[sl (a.w.fj.cells.map ij.t),sl (a.w.fj.em.map iF.t),sl (a.w.fj.gW.map iU.t),sl (a.w.fj.eg.map T.str),sl (a.w.fj.dK.map T.str),sl (a.w.fj.iG.map iH.t),dE a.w.start,sl (a.w.jY.fM.em.map ed.t),dE a.w.jY.fM.tx,sl (a.w.jY.fM.done.map T.bool),sl (a.w.jY.fM.dK.map dN.t),sl (a.w.jY.cells.map (T.int .i64)),sl (a.w.jY.eg.map (T.int .i64)),sl (a.w.jY.count.map (T.int .i64)),sl (a.w.dO.map ez.t),sl (a.BT.map fH.t)]
def fI.t(a:fI):T:= .agg a.cs
@[simp] theorem fI.ag (a:fI):rh a.t [sl (a.w.fj.cells.map ij.t),sl (a.w.fj.em.map iF.t),sl (a.w.fj.gW.map iU.t),sl (a.w.fj.eg.map T.str),sl (a.w.fj.dK.map T.str),sl (a.w.fj.iG.map iH.t),dE a.w.start,sl (a.w.jY.fM.em.map ed.t),dE a.w.jY.fM.tx,sl (a.w.jY.fM.done.map T.bool),sl (a.w.jY.fM.dK.map dN.t),sl (a.w.jY.cells.map (T.int .i64)),sl (a.w.jY.eg.map (T.int .i64)),sl (a.w.jY.count.map (T.int .i64)),sl (a.w.dO.map ez.t),sl (a.BT.map fH.t)] 16:=by
 unfold fI.t fI.cs;exact⟨rfl,rfl,λ_ _=>rfl,rfl,by simp[jS],λ_=>by simp,λ_ _=>by simp,dA,dA⟩
@[simp] theorem fI.fold (a0:List ij) (a1:List iF) (a2:List iU) (a3:List (List Nat)) (a4:List (List Nat)) (a5:List iH) (g:Int) (h:List ed) (i:Int) (j:List Bool) (a:List dN) (b:List Int) (c:List Int) (d:List Int) (e:List ez) (f:List fH):T.agg [sl (a0.map ij.t),sl (a1.map iF.t),sl (a2.map iU.t),sl (a3.map T.str),sl (a4.map T.str),sl (a5.map iH.t),dE g,sl (h.map ed.t),dE i,sl (j.map T.bool),sl (a.map dN.t),sl (b.map (T.int .i64)),sl (c.map (T.int .i64)),sl (d.map (T.int .i64)),sl (e.map ez.t),sl (f.map fH.t)]=fI.t ⟨⟨⟨a0,a1,a2,a3,a4,a5⟩,g,⟨⟨h,i,j,a⟩,b,c,d⟩,e⟩,f⟩:=rfl
@[simp] theorem fI.eta (a:fI):fI.mk a.w a.BT=a:=rfl
def fI.inj{a b:fI}(c:a.t=b.t):a=b:=by
 rcases a with⟨⟨⟨_,_,_,_,_,_⟩,_,⟨⟨_,_,_,_⟩,_,_,_⟩,_⟩,_⟩;rcases b with⟨⟨⟨_,_,_,_,_,_⟩,_,⟨⟨_,_,_,_⟩,_,_,_⟩,_⟩,_⟩;simp only[fI.t,fI.cs,T.agg.injEq,aL]at c;obtain⟨d,e,l,m,n,o,p,q,r,s,f,g,h,i,j,k,_⟩:=c;obtain rfl:=iA (λ_ _=>ij.inj) _ _ d;obtain rfl:=iA (λ_ _=>iF.inj) _ _ e;obtain rfl:=iA (λ_ _=>iU.inj) _ _ l;obtain rfl:=iA (λ_ _=>mT) _ _ m;obtain rfl:=iA (λ_ _=>mT) _ _ n;obtain rfl:=iA (λ_ _=>iH.inj) _ _ o;obtain rfl:=ir p;obtain rfl:=iA (λ_ _=>ed.inj) _ _ q;obtain rfl:=ir r;obtain rfl:=iA (λ_ _=>sW) _ _ s;obtain rfl:=iA (λ_ _=>dN.inj) _ _ f;obtain rfl:=iA (λ_ _=>ir) _ _ g;obtain rfl:=iA (λ_ _=>ir) _ _ h;obtain rfl:=iA (λ_ _=>ir) _ _ i;obtain rfl:=iA (λ_ _=>ez.inj) _ _ j;obtain rfl:=iA (λ_ _=>fH.inj) _ _ k;rfl
structure fT where
 op:Int
 a:Int
 b:Int
 c:Int
 n:Int
 jk:Int
 deriving DecidableEq,Inhabited
def fT.cs(d:fT):List T:=[dE d.op,dE d.a,dE d.b,dE d.c,dE d.n,dE d.jk]
def fT.t(a:fT):T:= .agg a.cs
@[simp] theorem fT.ag (d:fT):rh d.t [dE d.op,dE d.a,dE d.b,dE d.c,dE d.n,dE d.jk] 6:=by
 unfold fT.t fT.cs;exact⟨rfl,rfl,λ_ _=>rfl,rfl,by simp[jS],λ_=>by simp,λ_ _=>by simp,dA,dA⟩
@[simp] theorem fT.fold (a0:Int) (a1:Int) (a2:Int) (a3:Int) (a4:Int) (a5:Int):T.agg [dE a0,dE a1,dE a2,dE a3,dE a4,dE a5]=fT.t ⟨a0,a1,a2,a3,a4,a5⟩:=rfl
@[simp] theorem fT.eta (d:fT):fT.mk d.op d.a d.b d.c d.n d.jk=d:=rfl
def fT.inj{a b:fT}(c:a.t=b.t):a=b:=by
 rcases a with⟨_,_,_,_,_,_⟩;rcases b with⟨_,_,_,_,_,_⟩;simp only[fT.t,fT.cs,T.agg.injEq,aL]at c;obtain⟨d,e,f,g,h,i,_⟩:=c;obtain rfl:=ir d;obtain rfl:=ir e;obtain rfl:=ir f;obtain rfl:=ir g;obtain rfl:=ir h;obtain rfl:=ir i;rfl
structure fZ where
 iT:Int
 jl:List fT
 deriving DecidableEq,Inhabited
def fZ.cs(a:fZ):List T:=[dE a.iT,sl (a.jl.map fT.t)]
def fZ.t(a:fZ):T:= .agg a.cs
@[simp] theorem fZ.ag (a:fZ):rh a.t [dE a.iT,sl (a.jl.map fT.t)] 2:=by
 unfold fZ.t fZ.cs;exact⟨rfl,rfl,λ_ _=>rfl,rfl,by simp[jS],λ_=>by simp,λ_ _=>by simp,dA,dA⟩
@[simp] theorem fZ.fold (a0:Int) (a1:List fT):T.agg [dE a0,sl (a1.map fT.t)]=fZ.t ⟨a0,a1⟩:=rfl
@[simp] theorem fZ.eta (a:fZ):fZ.mk a.iT a.jl=a:=rfl
def fZ.inj{a b:fZ}(c:a.t=b.t):a=b:=by
 rcases a with⟨_,_⟩;rcases b with⟨_,_⟩;simp only[fZ.t,fZ.cs,T.agg.injEq,aL]at c;obtain⟨d,e,_⟩:=c;obtain rfl:=ir d;obtain rfl:=iA (λ_ _=>fT.inj) _ _ e;rfl
structure jM where
 fj:d8
 dK:List fZ
 deriving DecidableEq,Inhabited
def jM.cs(a:jM):List T:=[sl (a.fj.cells.map ij.t),sl (a.fj.em.map iF.t),sl (a.fj.gW.map iU.t),sl (a.fj.eg.map T.str),sl (a.fj.dK.map T.str),sl (a.fj.iG.map iH.t),sl (a.dK.map fZ.t)]
def jM.t(a:jM):T:= .agg a.cs
@[simp] theorem jM.ag (a:jM):rh a.t [sl (a.fj.cells.map ij.t),sl (a.fj.em.map iF.t),sl (a.fj.gW.map iU.t),sl (a.fj.eg.map T.str),sl (a.fj.dK.map T.str),sl (a.fj.iG.map iH.t),sl (a.dK.map fZ.t)] 7:=by
 unfold jM.t jM.cs;exact⟨rfl,rfl,λ_ _=>rfl,rfl,by simp[jS],λ_=>by simp,λ_ _=>by simp,dA,dA⟩
@[simp] theorem jM.fold (a0:List ij) (a1:List iF) (a2:List iU) (a3:List (List Nat)) (a4:List (List Nat)) (a5:List iH) (a:List fZ):T.agg [sl (a0.map ij.t),sl (a1.map iF.t),sl (a2.map iU.t),sl (a3.map T.str),sl (a4.map T.str),sl (a5.map iH.t),sl (a.map fZ.t)]=jM.t ⟨⟨a0,a1,a2,a3,a4,a5⟩,a⟩:=rfl
@[simp] theorem jM.eta (a:jM):jM.mk a.fj a.dK=a:=rfl
def jM.inj{a b:jM}(c:a.t=b.t):a=b:=by
 rcases a with⟨⟨_,_,_,_,_,_⟩,_⟩;rcases b with⟨⟨_,_,_,_,_,_⟩,_⟩;simp only[jM.t,jM.cs,T.agg.injEq,aL]at c;obtain⟨d,e,f,g,h,i,j,_⟩:=c;obtain rfl:=iA (λ_ _=>ij.inj) _ _ d;obtain rfl:=iA (λ_ _=>iF.inj) _ _ e;obtain rfl:=iA (λ_ _=>iU.inj) _ _ f;obtain rfl:=iA (λ_ _=>mT) _ _ g;obtain rfl:=iA (λ_ _=>mT) _ _ h;obtain rfl:=iA (λ_ _=>iH.inj) _ _ i;obtain rfl:=iA (λ_ _=>fZ.inj) _ _ j;rfl
structure eG where
 pC:Int
 iT:List Int
 j8:List (List Int)
 dO:Int
 deriving DecidableEq,Inhabited
def eG.cs(a:eG):List T:=[dE a.pC,sl (a.iT.map (T.int .i64)),sl (a.j8.map (λb=>sl (b.map (T.int .i64)))),dE a.dO]
def eG.t(a:eG):T:= .agg a.cs
@[simp] theorem eG.ag (a:eG):rh a.t [dE a.pC,sl (a.iT.map (T.int .i64)),sl (a.j8.map (λb=>sl (b.map (T.int .i64)))),dE a.dO] 4:=by
 unfold eG.t eG.cs;exact⟨rfl,rfl,λ_ _=>rfl,rfl,by simp[jS],λ_=>by simp,λ_ _=>by simp,dA,dA⟩
@[simp] theorem eG.fold (a0:Int) (a1:List Int) (a2:List (List Int)) (a3:Int):T.agg [dE a0,sl (a1.map (T.int .i64)),sl (a2.map (λa=>sl (a.map (T.int .i64)))),dE a3]=eG.t ⟨a0,a1,a2,a3⟩:=rfl
@[simp] theorem eG.eta (a:eG):eG.mk a.pC a.iT a.j8 a.dO=a:=rfl
def eG.inj{a b:eG}(c:a.t=b.t):a=b:=by
 rcases a with⟨_,_,_,_⟩;rcases b with⟨_,_,_,_⟩;simp only[eG.t,eG.cs,T.agg.injEq,aL]at c;obtain⟨d,e,f,g,_⟩:=c;obtain rfl:=ir d;obtain rfl:=iA (λ_ _=>ir) _ _ e;obtain rfl:=iA (iA (λ_ _=>ir)) _ _ f;obtain rfl:=ir g;rfl
structure iK where
 fM:fH
 cells:List Int
 eg:List Int
 dK:List eG
 deriving DecidableEq,Inhabited
def iK.cs(a:iK):List T:=[sl (a.fM.em.map ed.t),dE a.fM.tx,sl (a.fM.done.map T.bool),sl (a.fM.dK.map dN.t),sl (a.cells.map (T.int .i64)),sl (a.eg.map (T.int .i64)),sl (a.dK.map eG.t)]
def iK.t(a:iK):T:= .agg a.cs
@[simp] theorem iK.ag (a:iK):rh a.t [sl (a.fM.em.map ed.t),dE a.fM.tx,sl (a.fM.done.map T.bool),sl (a.fM.dK.map dN.t),sl (a.cells.map (T.int .i64)),sl (a.eg.map (T.int .i64)),sl (a.dK.map eG.t)] 7:=by
 unfold iK.t iK.cs;exact⟨rfl,rfl,λ_ _=>rfl,rfl,by simp[jS],λ_=>by simp,λ_ _=>by simp,dA,dA⟩
@[simp] theorem iK.fold (a0:List ed) (a1:Int) (a2:List Bool) (a3:List dN) (a4:List Int) (a5:List Int) (a:List eG):T.agg [sl (a0.map ed.t),dE a1,sl (a2.map T.bool),sl (a3.map dN.t),sl (a4.map (T.int .i64)),sl (a5.map (T.int .i64)),sl (a.map eG.t)]=iK.t ⟨⟨a0,a1,a2,a3⟩,a4,a5,a⟩:=rfl
@[simp] theorem iK.eta (a:iK):iK.mk a.fM a.cells a.eg a.dK=a:=rfl
def iK.inj{a b:iK}(c:a.t=b.t):a=b:=by
 rcases a with⟨⟨_,_,_,_⟩,_,_,_⟩;rcases b with⟨⟨_,_,_,_⟩,_,_,_⟩;simp only[iK.t,iK.cs,T.agg.injEq,aL]at c;obtain⟨d,e,f,g,h,i,j,_⟩:=c;obtain rfl:=iA (λ_ _=>ed.inj) _ _ d;obtain rfl:=ir e;obtain rfl:=iA (λ_ _=>sW) _ _ f;obtain rfl:=iA (λ_ _=>dN.inj) _ _ g;obtain rfl:=iA (λ_ _=>ir) _ _ h;obtain rfl:=iA (λ_ _=>ir) _ _ i;obtain rfl:=iA (λ_ _=>eG.inj) _ _ j;rfl
structure ji where
 dT:Int
 Fb:Int
 deriving DecidableEq,Inhabited
def ji.cs(a:ji):List T:=[dE a.dT,dE a.Fb]
def ji.t(a:ji):T:= .agg a.cs
@[simp] theorem ji.ag (a:ji):rh a.t [dE a.dT,dE a.Fb] 2:=by
 unfold ji.t ji.cs;exact⟨rfl,rfl,λ_ _=>rfl,rfl,by simp[jS],λ_=>by simp,λ_ _=>by simp,dA,dA⟩
@[simp] theorem ji.fold (a0:Int) (a1:Int):T.agg [dE a0,dE a1]=ji.t ⟨a0,a1⟩:=rfl
@[simp] theorem ji.eta (a:ji):ji.mk a.dT a.Fb=a:=rfl
def ji.inj{a b:ji}(c:a.t=b.t):a=b:=by
 rcases a with⟨_,_⟩;rcases b with⟨_,_⟩;simp only[ji.t,ji.cs,T.agg.injEq,aL]at c;obtain⟨d,e,_⟩:=c;obtain rfl:=ir d;obtain rfl:=ir e;rfl
structure iy where
 kind:Int
 uL:Int
 name:List Nat
 size:Int
 jY:Int
 on:List Nat
 deriving DecidableEq,Inhabited
def iy.cs(a:iy):List T:=[dE a.kind,dE a.uL,.str a.name,dE a.size,dE a.jY,.str a.on]
def iy.t(a:iy):T:= .agg a.cs
@[simp] theorem iy.ag (a:iy):rh a.t [dE a.kind,dE a.uL,.str a.name,dE a.size,dE a.jY,.str a.on] 6:=by
 unfold iy.t iy.cs;exact⟨rfl,rfl,λ_ _=>rfl,rfl,by simp[jS],λ_=>by simp,λ_ _=>by simp,dA,dA⟩
@[simp] theorem iy.fold (a0:Int) (a1:Int) (a2:List Nat) (a3:Int) (a4:Int) (a5:List Nat):T.agg [dE a0,dE a1,.str a2,dE a3,dE a4,.str a5]=iy.t ⟨a0,a1,a2,a3,a4,a5⟩:=rfl
@[simp] theorem iy.eta (a:iy):iy.mk a.kind a.uL a.name a.size a.jY a.on=a:=rfl
def iy.inj{a b:iy}(c:a.t=b.t):a=b:=by
 rcases a with⟨_,_,_,_,_,_⟩;rcases b with⟨_,_,_,_,_,_⟩;simp only[iy.t,iy.cs,T.agg.injEq,aL]at c;obtain⟨d,e,f,g,h,i,_⟩:=c;obtain rfl:=ir d;obtain rfl:=ir e;obtain rfl:=mT f;obtain rfl:=ir g;obtain rfl:=ir h;obtain rfl:=mT i;rfl
def je(a:Int)(b:Nat):Bool:=decide (0<=a/\a<b)
def wV{b:Type}(c:List b)(a:Int):aa b:=if 0<=a then c[a.toNat]? else none
def fq{a:Int}{b:Nat}:je a b=true↔0<=a/\a.toNat<b:=by unfold je;simp;omega
def ES{a:Int}{c:Nat}(b:je a c=false):¬(0<=a/\a.toNat<c):=λd=>by rw[fq.2 d]at b;simp at b
def iI{g:Type}{b:List g}{a:Int}(e:je a b.length=true):∃d,b[a.toNat]? =some d/\wV b a=some d:=by
 obtain⟨f,c⟩:=fq.1 e;exact⟨b[a.toNat],by simp[c],by simp[wV,f,c]⟩
def rf{d:Type}{b:List d}{a:Int}(c:je a b.length=false):wV b a=none:=by
 have:=ES c;unfold wV;split
 ·simp;omega
 ·rfl
def mQ(a:d8)(b:fH):Bool:=(a.gW.all λc=>je c.kJ a.em.length)&&decide (b.em.length=a.em.length)&&decide (b.done.length=a.eg.length)&&decide (b.dK.length=a.dK.length)
def jQ(c:d8)(a b:Int):Bool:=
 if a=1\/a=2\/a=5\/a=12\/a=13\/a=14\/a=15 then decide (b=-1)
 else if a=3\/a=4 then je b c.cells.length
 else if a=6\/a=7 then(match wV c.em b with|some d=> !d.rW|none=>false)
 else if a=8\/a=9\/a=10\/a=11 then(match wV c.em b with|some d=>d.rW|none=>false)
 else if a=16\/a=17\/a=18\/a=19 then je b c.gW.length
 else if a=20\/a=21 then je b c.dK.length
 else if a=22\/a=23 then je b c.eg.length
 else false
def iz(a:Int):List dN->Nat->List Int
 | [],_=>[]
 |t::c,b=>if t.iL=3/\t.cond=a then(b:Int)::iz a c (b+1)else iz a c (b+1)
def mK(b:fH)(a:Int):ed:=(wV b.em a).getD default
def pW(b:fH)(a:Int):dN:=(wV b.dK a).getD default
def r9(c:d8)(b:fH)(a:Int):ed:=mK b ((wV c.gW a).getD default).kJ
def C4(b:fH)(a:Int):Bool:=(wV b.done a).getD false
def BA(e:d8)(a:fH)(d b c:Int):Bool:=
 if b=1 then decide ((pW a d).iL=1)
 else if b=17 then decide ((pW a d).iL=4)&&decide ((pW a d).cond=c)&&decide ((r9 e a c).iX=-1)
 else if¬(pW a d).iL=2 then false
 else if b=6 then decide ((mK a c).iX=-1)
 else if b=10 then decide ((mK a c).iX=-1)&&decide ((mK a c).eJ=[])
 else if b=8 then decide ((mK a c).iX=-1)&& !decide (d∈(mK a c).eJ)
 else if b=7\/b=11 then decide ((mK a c).iX=d)
 else if b=9 then decide (d∈(mK a c).eJ)
 else if b=12 then decide (a.tx=-1)
 else if b=13 then decide (a.tx=d)
 else if b=14 then !(pW a d).atomic
 else if b=15 then(pW a d).atomic
 else if b=16\/b=18\/b=19 then decide ((r9 e a c).iX=d)
 else if b=20 then !decide (c=d)&&decide ((pW a c).iL=0)
 else if b=21 then !decide (c=d)&&decide ((pW a c).iL=5)
 else if b=22 then !C4 a c
 else if b=23 then C4 a c
 else true
def jR(a:d8)(d:fH)(e b c:Int):Bool:=mQ a d&&je e a.dK.length&&jQ a b c&&BA a d e b c
def oD{c:d8}{b:fH}(a:mQ c b=true):b.em.length=c.em.length/\b.done.length=c.eg.length/\b.dK.length=c.dK.length:=by
 unfold mQ at a;simp at a;exact⟨a.1.1.2,a.1.2,a.2⟩
def r7{c:d8}{f:fH}(b:mQ c f=true){e:Nat}{a:iU}(d:c.gW[e]? =some a):je a.kJ c.em.length=true:=by
 unfold mQ at b;simp at b;exact b.1.1.1 a (ax d)
def uc{d:d8}{a c:Int}(b:jQ d a c=true):a=1\/a=2\/a=3\/a=4\/a=5\/a=12\/a=13\/a=14\/a=15\/(a=6\/a=7\/a=8\/a=9\/a=10\/a=11)\/(a=16\/a=17\/a=18\/a=19)\/(a=20\/a=21)\/(a=22\/a=23):=by
 by_cases e:1<=a/\a<=23
 ·omega
 ·exfalso;unfold jQ at b;rw[ao dz,ao dz,ao dz,ao dz,ao dz,ao dz,ao dz]at b;simp at b
def kV{d:d8}{a c:Int}(b:jQ d a c=true)(e:a=6\/a=7\/a=8\/a=9\/a=10\/a=11):je c d.em.length=true:=by
 cases hl:je c d.em.length with
 |true=>rfl
 |false=>
  unfold jQ at b;rw[ao dz,ao dz]at b;rcases e with rfl|rfl|rfl|rfl|rfl|rfl<;>simp[rf hl]at b
def oo{d:d8}{a c:Int}(b:jQ d a c=true)(e:a=16\/a=17\/a=18\/a=19):je c d.gW.length=true:=by
 unfold jQ at b;rwa[ao dz,ao dz,ao dz,ao dz,aq e]at b
def wG{d:d8}{a c:Int}(b:jQ d a c=true)(e:a=20\/a=21):je c d.dK.length=true:=by
 unfold jQ at b;rwa[ao dz,ao dz,ao dz,ao dz,ao dz,aq e]at b
def rx{d:d8}{a c:Int}(b:jQ d a c=true)(e:a=22\/a=23):je c d.eg.length=true:=by
 unfold jQ at b;rwa[ao dz,ao dz,ao dz,ao dz,ao dz,ao dz,aq e]at b
def fH.sm(a:fH):Prop:=a.em.length<=1099511627776/\a.done.length<=1099511627776/\a.dK.length<=1099511627776/\∀b∈a.em,b.eJ.length<=1000000000000
def fH.ph(a:fH)(i:Int)(b:dN->dN):fH:={a with dK:=a.dK.modify i.toNat b}
def fH.qv(a:fH)(c:Int)(b:ed->ed):fH:={a with em:=a.em.modify c.toNat b}
def kz(a:Int)(b:dN):dN:={b with iL:=a}
def mf:List Int->Int->List Int
 | [],a=>[a]
 |x::b,a=>if x<a then x::mf b a else if x=a then x::b else a::x::b
def yj(a c:Int)(b:List dN):Int:=if c∈iz a b 0 then c else(iz a b 0).headD (-1)
def ff(g:d8)(a:fH)(f b c h:Int):fH×Int:=
 if b=1 then(a.ph f (kz 2),0)
 else if b=2 then(a.ph f (kz 5),0)
 else if b=6\/b=10 then(a.qv c λd=>{d with iX:=f},0)
 else if b=7\/b=11 then(a.qv c λd=>{d with iX:=-1},0)
 else if b=8 then(a.qv c λd=>{d with eJ:=mf d.eJ f},0)
 else if b=9 then(a.qv c λd=>{d with eJ:=d.eJ.filter λi=> !decide (i=f)},0)
 else if b=12 then({a with tx:=f},0)
 else if b=13 then({a with tx:=-1},0)
 else if b=14 then(a.ph f λe=>{e with atomic:=true},0)
 else if b=15 then(a.ph f λe=>{e with atomic:=false},0)
 else if b=16 then((a.qv ((wV g.gW c).getD default).kJ λd=>{d with iX:=-1}).ph f λe=>{e with iL:=3,cond:=c},0)
 else if b=17 then((a.qv ((wV g.gW c).getD default).kJ λd=>{d with iX:=f}).ph f λe=>{e with iL:=2,cond:=0},0)
 else if b=18 then(if iz c a.dK 0=[]then(a,-1)else(a.ph (yj c h a.dK) (kz 4),yj c h a.dK))
 else if b=19 then({a with dK:=a.dK.map λe=>if e.iL=3/\e.cond=c then kz 4 e else e},(iz c a.dK 0).length)
 else if b=20 then(a.ph c (kz 1),0)
 else if b=22 then({a with done:=a.done.set c.toNat true},0)
 else(a,0)
def IP(a:List Int):Prop:=a.Pairwise (· < ·)
def fH.E4(b:fH):Prop:=∀a∈b.em,IP a.eJ
def CE{a:List Int}{c b:Int}(h:b∈mf a c):b∈a\/b=c:=by
 induction a with
 |nil=>simp[mf]at h;exact .inr h
 |cons e a d=>
  unfold mf at h;split at h
  ·rcases List.mem_cons.1 h with rfl|h
   ·exact .inl dA
   ·rcases d h with h|h
    ·exact .inl (by simp[h])
    ·exact .inr h
  ·split at h
   ·exact .inl h
   ·rcases List.mem_cons.1 h with rfl|h
    ·exact .inr rfl
    ·exact .inl h
def CF{b:List Int}(a:IP b)(e:Int):IP (mf b e):=by
 induction b with
 |nil=>simp[mf,IP]
 |cons f b d=>
  unfold IP at*
  rw[dt]at a;unfold mf;split
  ·rw[dt];refine⟨λc hx=> ?_,d a.2⟩;rcases CE hx with hx|rfl
   ·exact a.1 c hx
   ·assumption
  ·split
   ·rw[dt];exact a
   ·rw[dt,dt];refine⟨λc hx=> ?_,a⟩;rcases List.mem_cons.1 hx with rfl|hx
    ·omega
    ·have:=a.1 c hx;omega
def HY(a:List Int)(b:Int):(mf a b).length<=a.length+1:=by
 induction a with
 |nil=>simp[mf]
 |cons d a c=>unfold mf;split<;>(try split)<;>simp<;>omega
def mem_modify{c:Type}{b:List c}{i:Nat}{g:c->c}{e:c}(h:e∈b.modify i g):e∈b\/∃f∈b,e=g f:=by
 obtain⟨j,a⟩:=List.mem_iff_getElem?.1 h;rw[List.getElem?_modify]at a;split at a
 ·cases d:b[j]? with
  |none=>rw[d]at a;simp at a
  |some f=>rw[d]at a;simp at a;exact .inr ⟨f,ax d,a.symm⟩
 ·exact .inl (ax (by simpa using a))
def SA{b:fH}(d:b.E4){h:Int}{c:ed->ed}(f:∀a∈b.em,IP (c a).eJ):(b.qv h c).E4:=by
 intro a hl;rcases mem_modify hl with e|⟨i,g,rfl⟩
 ·exact d a e
 ·exact f i g
def qj{e:Type}(b:e->Prop){a:Prop} [Decidable a]{c d:e}(f:a->b c)(g:¬a->b d):b (if a then c else d):=by
 split
 ·exact f (by assumption)
 ·exact g (by assumption)
def uW{P:fH×Int->Prop}{p:d8}{b:fH}{e m g q:Int}(p0:P (b,0))(p1:P (b,-1))(pt:∀h c d,P (b.ph h c,d))(f:∀h c,(∀a,(c a).eJ=a.eJ\/(c a).eJ=mf a.eJ e\/(c a).eJ=a.eJ.filter λi=> !decide (i=e))->P (b.qv h c,0)/\∀l k,P ((b.qv h c).ph l k,0))
 (j:∀d,P ({b with tx:=d},0)) (o:∀c d,P ({b with dK:=b.dK.map c},d)) (n:∀d,P ({b with done:=b.done.set d true},0)):P (ff p b e m g q):=by
 unfold ff;refine qj P (λ_=>pt _ _ _) λ_=> ?_;refine qj P (λ_=>pt _ _ _) λ_=> ?_;refine qj P (λ_=>(f g (λa=>{a with iX:=e}) λ_=> .inl rfl).1) λ_=> ?_;refine qj P (λ_=>(f g (λa=>{a with iX:=-1}) λ_=> .inl rfl).1) λ_=> ?_;refine qj P (λ_=>(f g (λa=>{a with eJ:=mf a.eJ e}) λ_=> .inr (.inl rfl)).1) λ_=> ?_;refine qj P (λ_=>(f g (λa=>{a with eJ:=a.eJ.filter λi=> !decide (i=e)}) λ_=> .inr (.inr rfl)).1) λ_=> ?_;refine qj P (λ_=>j _) λ_=> ?_;refine qj P (λ_=>j _) λ_=> ?_;refine qj P (λ_=>pt _ _ _) λ_=> ?_;refine qj P (λ_=>pt _ _ _) λ_=> ?_;refine qj P (λ_=>(f _ (λa=>{a with iX:=-1}) λ_=> .inl rfl).2 _ _) λ_=> ?_;refine qj P (λ_=>(f _ (λa=>{a with iX:=e}) λ_=> .inl rfl).2 _ _) λ_=> ?_;refine qj P (λ_=>qj P (λ_=>p1) λ_=>pt _ _ _) λ_=> ?_;refine qj P (λ_=>o _ _) λ_=> ?_;refine qj P (λ_=>pt _ _ _) λ_=> ?_;exact qj P (λ_=>n _) λ_=>p0
def ye{i:fH}(b:i.E4)(m:d8)(g k l n:Int):(ff m i g k l n).1.E4:=by
 have j:∀(d:Int) (c:ed->ed),(∀a,(c a).eJ=a.eJ\/(c a).eJ=mf a.eJ g\/(c a).eJ=a.eJ.filter λh=> !decide (h=g))->(i.qv d c).E4:=λd c f=>SA b λa hl=>by
  rcases f a with e|e|e<;>rw[e]
  ·exact b a hl
  ·exact CF (b a hl) g
  ·exact(b a hl).filter _
 exact uW (P:=λh=>h.1.E4) b b (λ_ _ _=>b) (λd c f=>⟨j d c f,λ_ _=>j d c f⟩) (λ_=>b) (λ_ _=>b) (λ_=>b)
def yd(f:d8)(a:fH)(e b c g:Int):(ff f a e b c g).1.em.length=a.em.length/\(ff f a e b c g).1.done.length=a.done.length/\(ff f a e b c g).1.dK.length=a.dK.length:=
 uW (P:=λd=>d.1.em.length=a.em.length/\d.1.done.length=a.done.length/\d.1.dK.length=a.dK.length) ⟨rfl,rfl,rfl⟩ ⟨rfl,rfl,rfl⟩ (λ_ _ _=>by simp[fH.ph]) (λ_ _ _=>by simp[fH.ph,fH.qv]) (λ_=>⟨rfl,rfl,rfl⟩) (λ_ _=>by simp) (λ_=>by simp)
def M0{a:List Int}{b:Int}(d:∀c∈a,c<b):mf a b=a++[b]:=by
 induction a with
 |nil=>rfl
 |cons g a f=>unfold mf;rw[aq (d g dA),f λc e=>d c (by simp[e])];rfl
def M1:∀(b a:List Int),IP (a++b)->b.foldl mf a=a++b:=by
 intro b;induction b with
 |nil=>intro a _;simp
 |cons c b h=>
  intro a e;have f:∀d∈a,d<c:=λd g=>(List.pairwise_append.1 e).2.2 d g c dA;rw[List.foldl_cons,M0 f,h (a++[c]) (by simpa using e)];simp
def L5{a:List Int}(c:IP a)(b:Int): [b].foldl mf (a.foldl mf [])=mf a b:=by
 rw[M1 a [] (by simpa using c)];rfl
def nJ(b:d8)(a:ej):Bool:=mQ b a.fM&&decide (a.cells.length=b.cells.length)&&decide (a.eg.length=b.eg.length)&&decide (a.count.length=b.dK.length)
def xO(b:Int):aa Int->List Int->Bool
 |_,[]=>true
 |p,a::c=> !(decide (a<1))&& !(decide (b<=a))&&(match p with|some d=> !(decide (a<=d))|none=>true)&&xO b (some a) c
def oc(b:ej)(a:ez):Bool:=
 if a.kind=3 then(match wV b.cells a.obj with|some c=>decide (a.value=c)|none=>false)
 else if a.kind=23 then(match wV b.eg a.obj with|some c=>decide (a.value=c)|none=>false)
 else if a.kind=5 then decide (a.value=0)||decide (a.value=1)
 else if a.kind=4\/a.kind=22 then true
 else if a.kind=18 then(if iz a.obj b.fM.dK 0=[]then decide (a.value=-1)else decide (0<=a.value)&&decide (a.value<b.fM.dK.length)&&decide (a.value∈iz a.obj b.fM.dK 0))
 else if a.kind=19 then decide (a.value=(iz a.obj b.fM.dK 0).length)
 else decide (a.value=0)
def AH(d c:Int):List ez->Nat->Bool->Bool
 | [],_,a=>a
 |e::f,b,a=>if e.dT=d then AH d c f (b+1) (a||(decide ((b:Int)=c)&&(decide (e.kind=3)||decide (e.kind=23))))else AH d c f b a
def vI(a:List ez)(d:Int)(c:List Int):Bool:=c.all λb=>AH d b a 0 false
def L3(c:Int):∀(a:List dN) (b:Nat),(iz c a b).length<=a.length:=by
 intro a;induction a with
 |nil=>intro b;simp[iz]
 |cons e a d=>intro b;rw[iz];have:=d (b+1);split<;>simp<;>omega
def mo(a:ez):Bool:=decide (a.kind=3)||decide (a.kind=4)
def kC(a b:ez):Bool:=mo a&&mo b&&decide (a.obj=b.obj)&&(decide (a.kind=4)||decide (b.kind=4))
def qr(a:Int):Bool:=decide (a=6)||decide (a=8)||decide (a=10)||decide (a=17)||decide (a=21)
def qz(b:List ez)(a:Int):ez:=(wV b a).getD default
end
end Go.Proofs.YtmaeadedikngoaaGreatDoor
