/- Texts TiCallT to S20. -/
import Derived.Test.YtmaeadedikngoaaGreatDoorA7
import Derived.KernelRfl
set_option linter.all false
set_option maxRecDepth 100000
set_option maxHeartbeats 8000000
namespace Go.TI
theorem dK{p:Prop}(h:p:=by kernel_rfl):p:=h
end Go.TI
namespace Go.TI
noncomputable section
mutual
def cn:T->T
 | .dN b c=>(match b with| []=> .gu|e::b=> .dN (WK (e::b)) false)
 | .agg a=> .agg (WK a)
 | .tuple a=> .tuple (WK a)
 |v=>v
def WK:List T->List T
 | []=>[]
 |x::a=>cn x::WK a
end
def Gk:∀a:List T,WK a=a.map cn
 | []=>by rw[WK];rfl
 |x::b=>by rw[WK,Gk b];rfl
def nl(a:List T)(b:Bool):cn (.dN a b)=sl (a.map cn):=by
 cases a with
 |nil=>rw[cn];rfl
 |cons c a=>rw[cn,Gk];rfl
def jS(a:List T):cn (.agg a)= .agg (a.map cn):=by rw[cn,Gk]
def us(a:List T):cn (.tuple a)= .tuple (a.map cn):=by rw[cn,Gk]
@[simp] theorem Qe:cn .undef= .undef:=by simp[cn]
@[simp] theorem Lo (a:Bool):cn (.bool a)=(.bool a):=by simp[cn]
@[simp] theorem Gj (a:ak) (b:Int):cn (.int a b)=(.int a b):=by simp[cn]
@[simp] theorem Gi (a:List Nat):cn (.str a)=(.str a):=by simp[cn]
@[simp] theorem Ll:cn .kw= .kw:=by simp[cn]
@[simp] theorem WH (a b c d:Nat):cn (.ptr a b c d)=(.ptr a b c d):=by simp[cn]
@[simp] theorem Li (a:List T):cn (.jB a)=(.jB a):=by simp[cn]
@[simp] theorem Ih:cn .gu= .gu:=by simp[cn]
@[simp] theorem WJ (a b e d:Nat) (c:Bool):cn (.arr a b e d c)=(.arr a b e d c):=by simp[cn]
@[simp] theorem SY (b:aj) (a:List T):cn (.func b a)=(.func b a):=by simp[cn]
@[simp] theorem Ln:cn .kK= .kK:=by simp[cn]
@[simp] theorem Lm:cn .kM= .kM:=by simp[cn]
@[simp] theorem Qg (a:ab) (b:T):cn (.iface a b)=(.iface a b):=by simp[cn]
@[simp] theorem SX (a:Nat):cn (.iter a)=(.iter a):=by simp[cn]
@[simp] theorem WI (a:Nat):cn (.map a)=(.map a):=by simp[cn]
@[simp] theorem SW:cn .nR= .nR:=by simp[cn]
def EU(a:T):(cn a).scalar=a.scalar:=by
 cases a with
 |dN c d=>rw[nl];cases c<;>rfl
 |agg b=>rw[jS];rfl
 |tuple b=>rw[us];rfl
 |_=>simp
def Ii(a:T):(cn a).cells=a.cells.map cn:=by
 cases a with
 |dN c d=>rw[nl];cases c<;>(show [_]=[_];rw[nl])
 |agg b=>rw[jS];rfl
 |tuple b=>rw[us];show [_]=[_];rw[us]
 |_=>simp[T.cells]
def SZ(a:List T):fx (a.map cn)=(fx a).map cn:=by
 induction a with
 |nil=>rfl
 |cons c a b=>
  unfold fx at*
  simp only[aT,bA,b,Ii,List.map_append]
def ku.cn{a:T}(c:ku a):ku (cn a):=by
 induction c with
 |dN b n _ f=>
  rw[nl];cases b with
  |nil=>exact .gu
  |cons j b=>
   exact .dN _ _ (λa d=>by
    obtain⟨g,e,rfl⟩:=List.mem_map.1 (show a∈(j::b).map Go.TI.cn from d);exact f g e)
 |agg h _ f=>
  rw[jS];exact .agg _ (λa d=>by
   obtain⟨g,e,rfl⟩:=List.mem_map.1 d;exact f g e)
 |jB h c=>rw[Li];exact .jB h c
 |bool i=>rw[Lo];exact .bool i
 |int k l=>rw[Gj];exact .int k l
 |str m=>rw[Gi];exact .str m
 |kw=>rw[Ll];exact .kw
 |gu=>rw[Ih];exact .gu
 |kK=>rw[Ln];exact .kK
 |kM=>rw[Lm];exact .kM
def fD.cn{hp:af Obj}{μ:Mu}{e:T}{s:am}(d:fD hp μ e s):fD hp μ (cn e) s:=by
 induction d with
 |nM x g=>rw[nl];exact .gu g 0
 |dN m n x t off u N arr r fz B A hl Q H i p hr k=>
  rw[nl];show fD hp μ (.dN (Go.TI.cn m::n.map Go.TI.cn) false) _;have z:fx (Go.TI.cn m::n.map Go.TI.cn)=(fx (m::n)).map Go.TI.cn:=SZ (m::n);have:=fD.dN (hp:=hp) (μ:=μ) (Go.TI.cn m) (n.map Go.TI.cn) false t off u N arr r fz B A (by simpa using hl) dC (λe j=> ?_) ?_ ?_ ?_
  ·simpa using this
  ·have j:e∈(m::n).map Go.TI.cn:=j;obtain⟨c,b,rfl⟩:=List.mem_map.1 j;rw[Ii,aG];exact H c b
  ·rw[z,aG];exact i
  ·intro e j;rw[z]at j;obtain⟨c,b,rfl⟩:=List.mem_map.1 j;exact⟨by rw[EU];exact(p c b).1,(p c b).2.cn⟩
  ·intro f e a;rw[z,aQ]at a;cases b:(fx (m::n))[f]? with
   |none=>rw[b]at a;simp at a
   |some c=>rw[b]at a;simp at a;subst a;exact k f c b
 |agg v q i p hr k=>
  rw[jS];refine .agg _ q (by simpa using i) (λe j=> ?_) λf e a=> ?_
  ·obtain⟨c,b,rfl⟩:=List.mem_map.1 j;rw[EU];exact p c b
  ·rw[aQ]at a;cases b:v[f]? with
   |none=>rw[b]at a;simp at a
   |some c=>rw[b]at a;simp at a;subst a;exact k f c b
 |tuple O q i hr k=>
  rw[us];refine .tuple _ q (by simpa using i) λf e a=> ?_;rw[aQ]at a;cases b:O[f]? with
  |none=>rw[b]at a;simp at a
  |some c=>rw[b]at a;simp at a;subst a;exact k f c b
 |jB v t off arr r fz B A i p hr k=>rw[Li];exact .jB v t off arr r fz B A i p hr
 |undef=>rw[Qe];exact .undef
 |bool h=>rw[Lo];exact .bool h
 |int f K=>rw[Gj];exact .int f K
 |str M d=>rw[Gi];exact .str M d
 |kw=>rw[Ll];exact .kw
 |ptr h w C I l g o y G=>rw[WH];exact .ptr h w C I l g o y G
 |gu g u=>rw[Ih];exact .gu g u
 |arr h w L J x l g E o y hl d=>rw[WJ];exact .arr h w L J x l g E o y hl d
 |func F D q i hr k=>rw[SY];exact .func F D q i hr
 |kK=>rw[Ln];exact .kK
 |kM=>rw[Lm];exact .kM
 |iface r e s d k=>rw[Qg];exact .iface r e s d
 |iter h l g o d=>rw[SX];exact .iter h l g o d
 |map h l C o d=>rw[WI];exact .map h l C o d
 |nR=>rw[SW];exact .nR
def gJ.cn{f:af Obj}{h:Mu}{c:List T}{d:List am}(e:gJ f h c d):gJ f h (c.map Go.TI.cn) d:=by
 refine⟨by simpa using e.1,λg j a=> ?_⟩;rw[aQ]at a;cases b:c[g]? with
 |none=>rw[b]at a;simp at a
 |some i=>rw[b]at a;simp at a;subst a;exact(e.2 g i b).cn
mutual
def mc:T->Bool
 | .bool _| .int _ _| .str _| .kw| .kK| .kM| .nR| .gu=>true
 | .agg a=>oJ a
 | .tuple a=>oJ a
 |_=>false
def oJ:List T->Bool
 | []=>true
 |x::a=>mc x&&oJ a
end
def AE{a:List T}(c:oJ a=true):∀b∈a,mc b=true:=by
 induction a with
 |nil=>intro b hx;simp at hx
 |cons e a d=>
  intro b hx;rw[oJ,ay]at c;rcases List.mem_cons.1 hx with rfl|hx
  ·exact c.1
  ·exact d c.2 b hx
def fD.plain{n o:af Obj}{r s:Mu}{a:T}{i:am}(f:fD n r a i)(c:mc a=true):fD o s a i:=by
 induction f with
 |bool k=>exact .bool k
 |int d p=>exact .int d p
 |str q f=>exact .str q f
 |kw=>exact .kw
 |kK=>exact .kK
 |kM=>exact .kM
 |nR=>exact .nR
 |gu j l=>exact .gu j l
 |agg t e g m hr h=>
  rw[mc]at c;exact .agg _ e g m λd a b=>h d a b (AE c a (ax b))
 |tuple u e g hr h=>
  rw[mc]at c;exact .tuple _ e g λd a b=>h d a b (AE c a (ax b))
 |_=>simp[mc]at c
section
variable {P:ai}{cx:Ctx}
def Ni{b:Mu}{a:Nat}:nz (mr 0 b) a↔b.pi a:=by
 constructor
 ·rintro(⟨e,d,c,_⟩|hr)
  ·exact absurd (kf c).1 dB
  ·exact hr
 ·exact λhr=> .inr hr
def L6{y:aj}{o k:List T}{w:T}{s:H}(E:kY P cx y (k.map cn) w)(u:fP (kr s 0) o=some k)(hr:mc w=true):qA P cx ⟨y,o,s,w,s⟩:=by
 intro V d f x b A;have D:gJ d.heap (mr 0 f) k x.toList:=by
  have z:iG (λj R=>∀p,fD d.heap f j p->fD d.heap (mr 0 f) R p) o k:=iG.map (λn m Z M p F=>qu b F M) u;refine⟨by rw[<-z.length];exact A.1,λN j I=> ?_⟩;obtain⟨n,m,u⟩:=z.get I;exact u _ (A.2 N n m)
 have Q:St cx d.heap.size d.heap (mr 0 f) hE:=by
  refine⟨rfl,au _,λh e c=>absurd (kf c).1 dB,λh U e S c=>absurd (kf c).1 dB,λh e c=>absurd (kf c).1 dB,λh e c=>absurd (kf c).1 dB,λa hr=>b.qF a hr,λr q v=> ?_⟩;have:=b.yM r q v;refine this.cut ?_;obtain⟨_,_,_,_,_,_,_,_,_,K,_⟩:=this.lO;exact .jB _ λj L=>(K j L).2.low 0
 refine(E d.heap.size d (mr 0 f) x hE Q D.cn).mono λj C ⟨⟨ae,O,W,g,X⟩,Y⟩=> ?_;have B:∀a,a<d.heap.size->¬f.pi a->C.heap[a]? =d.heap[a]? :=λa i l=>(g.ext.nJ a i λG=>l (Ni.1 G)).1;have t:Ext d.heap f C.heap f:=by
  refine⟨g.ext.size,λa i l=>⟨B a i λhr=>l (.inr hr),l⟩,λh e c=>⟨e,c,.inl rfl⟩,rfl,λa i hr=>g.ext.kept a i hr⟩
 refine⟨⟨f,O.plain hr,⟨b.wf,aS b.fit g.ext.size,λh e c=> ?_,b.inj,b.low,b.apart,λa hr=>bG (b.qF a hr) g.ext.size,λr q v=>(b.yM r q v).ext t⟩,⟨t,g.os,g.tape,g.output⟩,ye.refl _ _⟩,kW.refl b.wf⟩;obtain⟨n,m,J⟩:=b.box h e c;exact⟨n,m,J.ext t (B e.iR (b.lt c) (b.apart h e c))⟩
def L5{c:aj}{b:List T}{d:T}{a:H}(h:kY P cx c (b.map cn) d):qA P cx ⟨c,b,a,d,a⟩:=
 λe j k f i g=>h e j k f a i g.cn
structure iq where
 α:Type
 A:α->List T
 pre:α->Prop
 R:α->T
 inj:∀a b,A a=A b->R a=R b
structure kU where
 pre:List T->H->Prop
 post:List T->H->T->H->Prop
structure fN where
 p:aj->aa iq
 h:aj->aa kU
open Classical in
def rl(P:ai)(cx:Ctx)(f:fN)(d:aj)(c:List T):aa T:=match f.p d with
 |none=>none
 |some a=>if e:∃b,a.pre b/\a.A b=c/\kY P cx d c (a.R b)then some (a.R e.choose)else none
open Classical in
def hl(P:ai)(cx:Ctx)(g:fN)(c:aj)(b:List T)(d:H):aa (T×H):=match g.h c with
 |none=>none
 |some e=>if f:∃a:T×H,e.post b d a.1 a.2/\qA P cx ⟨c,b,d,a.1,a.2⟩then some f.choose else none
def xh(h:H)(d:Nat)(v:T):aa T:=dV (freeze h 0 d v) λv=>some (cn v)
def fz(b:H)(a:T):aa T:=dV (iJ b 0 a) λa=>some (cn a)
def rn(b:H)(a:T):aa T:=dV (kr b 0 a) λa=>some (cn a)
def QI(b:H)(a:List T):aa (List T):=fP (rn b) a
mutual
def jW:T->Bool
 | .bool _| .int _ _| .str _| .kw| .dN _ _| .gu| .kK| .kM=>true
 | .agg a=>oD a
 |_=>false
def oD:List T->Bool
 | []=>true
 |x::a=>jW x&&oD a
end
def qW(P:ai)(cx:Ctx)(d:fN):iX:=λc a b=>match QI b a with
 |none=>hl P cx d c a b
 |some f=>match rl P cx d c f with
  |none=>hl P cx d c a b
  |some e=>if(mc e||oD a)=true then some (e,b)else hl P cx d c a b
def rQ{f g j:Type}(b:f->aa g)(d:g->j):∀a:List f,fP (λc=>dV (b c) λe=>some (d e)) a=dV (fP b a) λi=>some (i.map d):=by
 intro a;induction a with
 |nil=>rfl
 |cons c a h=>
  rw[jK,jK,h];cases b c with
  |none=>rfl
  |some e=>simp only[dY];cases fP b a<;>rfl
def Iu{e:H}{c d:List T}(a:QI e c=some d):∃b,fP (kr e 0) c=some b/\d=b.map cn:=by
 unfold QI rn at a;rw[rQ]at a;obtain⟨b,hl,a⟩:=dL.1 a;simp only[ar]at a;exact⟨b,hl,a.symm⟩
mutual
def sU(e:H)(g d:Nat):(b:T)->jW b=true->(∀c,b≠ .agg c)->freeze e g (d+1) b=some b
 | .bool _,_,_=>rfl
 | .int _ _,_,_=>rfl
 | .str _,_,_=>rfl
 | .kw,_,_=>rfl
 | .dN _ _,_,_=>rfl
 | .gu,_,_=>rfl
 | .kK,_,_=>rfl
 | .kM,_,_=>rfl
 | .agg c,_,f=>absurd rfl (f c)
 | .undef,a,_=>by simp[jW]at a
 | .ptr ..,a,_=>by simp[jW]at a
 | .jB _,a,_=>by simp[jW]at a
 | .arr ..,a,_=>by simp[jW]at a
 | .func ..,a,_=>by simp[jW]at a
 | .iface ..,a,_=>by simp[jW]at a
 | .iter _,a,_=>by simp[jW]at a
 | .map _,a,_=>by simp[jW]at a
 | .nR,a,_=>by simp[jW]at a
 | .tuple _,a,_=>by simp[jW]at a
end
def qv(b:H){a:T}(c:jW a=true)(e:∀d,a≠ .agg d):iJ b 0 a=some a:=by
 have:=sU b 0 11 a c e;cases a<;>first|exact this|(simp[jW]at c)
def BO{a:List T}(c:oD a=true):∀b∈a,jW b=true:=by
 induction a with
 |nil=>intro b hx;simp at hx
 |cons e a d=>
  intro b hx;rw[oD,ay]at c;rcases List.mem_cons.1 hx with rfl|hx
  ·exact c.1
  ·exact d c.2 b hx
def QH{b:H}{a e:List T}{base:Nat}{o:af Obj}{t:Mu}{j:List am}(m:gJ o t a j)(p:oD a=true)(n:QI b a=some e):e=a.map cn:=by
 obtain⟨v,hl,rfl⟩:=Iu n;have:fP (kr b 0) a=some a:=by
  refine sP λh f=> ?_;have d:=BO p h f;obtain⟨w,r⟩:=m.mem f;cases h with
  |agg l=>
   show(dV (fP (iJ b 0) l) λs=>some (T.agg s))=_;obtain⟨u,rfl,_,q⟩:=r.pK;rw[sP λi g=>qv b (BO (by rw[jW]at d;exact d) i g) (λk c=>by have:=q i g;rw[c]at this;simp[T.scalar]at this)];rfl
  |_=>exact qv b d (λk c=>by simp at c)
 rw[this]at hl;simp only[ar]at hl;rw[hl]
def GV{f:fN}{c:aj}{b:List T}{d:T}(a:rl P cx f c b=some d):kY P cx c b d:=by
 unfold rl at a;split at a
 ·simp at a
 ·split at a
  ·rename_i e;simp only[ar]at a;subst a;exact e.choose_spec.2.2
  ·simp at a
def Cw{h:fN}{c:aj}{b:List T}{d e:H}{f:T}(a:hl P cx h c b d=some (f,e)):qA P cx ⟨c,b,d,f,e⟩:=by
 unfold hl at a;split at a
 ·simp at a
 ·split at a
  ·rename_i g;simp only[ar]at a;have:=g.choose_spec.2;rw[a]at this;exact this
  ·simp at a
def CZ(P:ai)(cx:Ctx)(j:fN):nH P cx (qW P cx j):=by
 intro m k n q o a base f g d e b;unfold qW at a;split at a
 ·exact Cw a base f g d e b
 ·rename_i l h;split at a
  ·exact Cw a base f g d e b
  ·rename_i r hr;split at a
   ·rename_i c;simp only[ar,az]at a;obtain⟨rfl,rfl⟩:=a;rw[cm]at c;rcases c with c|c
    ·obtain⟨p,hl,rfl⟩:=Iu h;exact L6 (GV hr) hl c base f g d e b
    ·have i:=QH (base:=base) b c h;subst i;exact L5 (GV hr) base f g d e b
   ·exact Cw a base f g d e b
def iq.Ok(P:ai)(cx:Ctx)(c:aj)(b:iq):Prop:=∀a,b.pre a->kY P cx c (b.A a) (b.R a)
def iv{g:fN}{c:aj}{a:iq}(ht:g.p c=some a)(h:a.Ok P cx c)(b:a.α)(e:a.pre b):rl P cx g c (a.A b)=some (a.R b):=by
 have f:∃d,a.pre d/\a.A d=a.A b/\kY P cx c (a.A b) (a.R d):=⟨b,e,rfl,h b e⟩;unfold rl;rw[ht];simp only;rw[dif_pos f,a.inj _ _ f.choose_spec.2.1]
def kU.Ok(P:ai)(cx:Ctx)(f:aj)(c:kU):Prop:=∀a b,c.pre a b->∃e d,c.post a b e d/\qA P cx ⟨f,a,b,e,d⟩
def EO{tb:fN}{d:aj}{c:kU}(ht:tb.h d=some c)(l:c.Ok P cx d){a:List T}{b:H}(m:c.pre a b):∃i e,hl P cx tb d a b=some (i,e)/\c.post a b i e:=by
 obtain⟨i,e,j,k⟩:=l a b m;have f:∃g:T×H,c.post a b g.1 g.2/\qA P cx ⟨d,a,b,g.1,g.2⟩:=⟨(i,e),j,k⟩;refine⟨f.choose.1,f.choose.2,?_,f.choose_spec.1⟩;unfold hl;rw[ht];simp only;rw[dif_pos f]
def Be{b:fN}{a:aj}(ht:b.p a=none)(c:List T):rl P cx b a c=none:=by unfold rl;rw[ht]
def cfV(e:aa T)(c:Bool)(d:H)(a:aa (T×H)):aa (T×H):=match e with
 |none=>a
 |some b=>if(mc b||c)=true then some (b,d)else a
@[simp] theorem abr (b:Bool) (c:H) (a:aa (T×H)):cfV none b c a=a:=id rfl
@[simp] theorem Qj (a:T) (b:Bool) (c:H) (d:aa (T×H)):cfV (some a) b c d=if(mc a||b)=true then some (a,c)else d:=id rfl
def cfW(P:ai)(cx:Ctx)(e:fN)(c:aj)(a:List T)(d:H)(b:aa (List T)):aa (T×H):=match b with
 |none=>hl P cx e c a d
 |some b=>cfV (rl P cx e c b) (oD a) d (hl P cx e c a d)
@[simp] theorem Qi (d:fN) (b:aj) (a:List T) (c:H):cfW P cx d b a c none=hl P cx d b a c:=id rfl
@[simp] theorem Qh (d:fN) (b:aj) (a e:List T) (c:H):cfW P cx d b a c (some e)=cfV (rl P cx d b e) (oD a) c (hl P cx d b a c):=id rfl
def Qk(d:fN)(c:aj)(a:List T)(b:H):qW P cx d c a b=cfW P cx d c a b (QI b a):=by
 unfold qW cfW cfV;cases QI b a with
 |none=>rfl
 |some e=>rfl
end
end
noncomputable section
section
variable {cx:Ctx}{h:H}
@[simp] theorem aer (a:ak) (b:Int):fz h (.int a b)=some (.int a b):=id rfl
@[simp] theorem acr (a:Bool):fz h (.bool a)=some (.bool a):=id rfl
@[simp] theorem aep (a:List Nat):fz h (.str a)=some (.str a):=id rfl
@[simp] theorem K6 (a:List T) (b:Bool):fz h (.dN a b)=some (sl (a.map cn)):=by
 show some (cn (.dN a b))=_;rw[nl]
@[simp] theorem Wf (a b c d:Nat):fz h (.ptr a b c d)=none:=by
 unfold fz iJ;simp
@[simp] theorem acx (c:Nat) (a:ak) (b:Int):xh h (c+1) (.int a b)=some (.int a b):=id rfl
@[simp] theorem abf (b:Nat) (a:Bool):xh h (b+1) (.bool a)=some (.bool a):=id rfl
@[simp] theorem acv (b:Nat) (a:List Nat):xh h (b+1) (.str a)=some (.str a):=id rfl
@[simp] theorem PK (c:Nat) (a:List T) (b:Bool):xh h (c+1) (.dN a b)=some (sl (a.map cn)):=by
 show some (cn (.dN a b))=_;rw[nl]
@[simp] theorem Ss (b:Nat) (a:List T):xh h (b+1) (.agg a)=dV (fP (xh h b) a) λc=>some (.agg c):=by
 show(dV (dV (fP (freeze h 0 b) a) λc=>some (T.agg c)) λd=>some (cn d))=_;unfold xh;rw[rQ];cases fP (freeze h 0 b) a with
 |none=>rfl
 |some c=>simp[jS]
def gH(d e b c:Nat)(m:Bool):h.ji (.arr d e b c m)=dV (h.get d) λa=>gh (decide (a.ep=e)) (if a.it=true then none else if b+c<=a.eZ.length then some ((a.eZ.drop b).take c)else none):=by
 show(dV (h.get d) λa=>iY.casesOn a λ_ g _ _ f l=>gh (Nat.beq g e) (Bool.casesOn f (dV (jX b l) λn=>takeN c n) none))=_;cases h.get d with
 |none=>rfl
 |some a=>
  obtain⟨p,g,q,o,f,i⟩:=a;simp only[dY,uV];congr 1;cases f with
  |true=>rfl
  |false=>
   simp only[cq,bo,lU,nO];by_cases j:b<=i.length
   ·rw[aq j,dY];by_cases k:b+c<=i.length
    ·rw[aq k,aq dD]
    ·rw[ao k,ao dD]
   ·rw[ao j,ao dB];rfl
def xR(i a c e d:Nat)(k:Bool):xh h (i+1) (.arr a c e d k)=dV (h.ji (.arr a c e d k)) λf=>dV (fP (xh h i) f) λb=>some (sl b):=by
 have p:freeze h 0 (i+1) (.arr a c e d k)=gh (Nat.ble 0 a) (dV (h.get a) λg=>iY.casesOn g λ_ j _ exact l m=>
  gh (Nat.beq j c) (@Bool.rec (λ_=>aa T) (dV (dV (jX e m) λb=>takeN d b) λf=>dV (fP (freeze h 0 i) f) λn=>
   @List.rec T (λ_=>aa T) (@List.rec T (λ_=>aa T) (@Bool.rec (λ_=>aa T) (some T.gu) (some (T.dN [] false)) exact) (λ_ _ _=>some T.gu) m) (λ_ _ _=>some (T.dN n k)) n) none l)):=rfl
 have q:h.ji (.arr a c e d k)=dV (h.get a) λg=>iY.casesOn g λ_ j _ _ l m=>gh (Nat.beq j c) (@Bool.rec (λ_=>aa (List T)) (dV (jX e m) λb=>takeN d b) none l):=rfl;unfold xh;rw[p,q];rw[show Nat.ble 0 a=true by simp,ir];cases h.get a with
 |none=>rfl
 |some g=>
  obtain⟨r,j,s,o,l,f⟩:=g;simp only[dY];cases Nat.beq j c with
  |false=>rfl
  |true=>
   simp only[ir];cases l with
   |true=>rfl
   |false=>
    simp only;cases (dV (jX e f) λb=>takeN d b)with
    |none=>rfl
    |some es1=>
     simp only[dY];rw[rQ];cases fP (freeze h 0 i) es1 with
     |none=>rfl
     |some A4=>
      simp only[dY];cases A4 with
      |nil=>
       cases f with
       |nil=>cases o<;>simp[nl,sl]
       |cons=>simp[sl]
      |cons g b=>simp[nl]
@[simp] theorem vZ (a b e d:Nat) (c:Bool):fz h (.arr a b e d c)=dV (h.ji (.arr a b e d c)) λf=>dV (fP (xh h 11) f) λg=>some (sl g):=by
 rw[<-xR];unfold fz xh iJ;simp only;rw[show Nat.ble 0 a=true by simp]
def Lj(a:List T):cn (sl a)=sl (a.map cn):=by
 cases a with
 |nil=>rfl
 |cons c b=>exact nl (c::b) false
def aba(a:List T):fz h (sl a)=some (sl (a.map cn)):=by cases a<;>first|rfl|exact K6 _ _
def Wg(b:Nat)(a:List T):xh h (b+1) (sl a)=some (sl (a.map cn)):=by cases a<;>first|rfl|exact PK b _ _
@[simp] theorem aeH {d:Type} (a:d->T) (c:List d) (e:∀b,cn (a b)=a b):cn (sl (c.map a))=sl (c.map a):=by
 rw[Lj,cM];congr 2;funext b;exact e b
@[simp] theorem aeq {d:Type} (a:d->T) (c:List d) (e:∀b,cn (a b)=a b):fz h (sl (c.map a))=some (sl (c.map a)):=by
 rw[aba,cM];congr 3;funext b;exact e b
@[simp] theorem acw {d:Type} (e:Nat) (a:d->T) (c:List d) (f:∀b,cn (a b)=a b):xh h (e+1) (sl (c.map a))=some (sl (c.map a)):=by
 rw[Wg,cM];congr 3;funext b;exact f b
@[simp] theorem Ci {e:Type} (c:T->aa T) (a:e->T) (d:List e) (f:∀b,c (a b)=some (a b)):fP c (d.map a)=some (d.map a):=sP λb g=>by
 obtain⟨i,_,rfl⟩:=List.mem_map.1 g;exact f i
@[simp] theorem Sr (a:List T):rn h (.agg a)=dV (fP (fz h) a) λb=>some (.agg b):=by
 show(dV (dV (fP (iJ h 0) a) λb=>some (T.agg b)) λc=>some (cn c))=_;unfold fz;rw[rQ];cases fP (iJ h 0) a with
 |none=>rfl
 |some b=>simp[jS]
@[simp] theorem acu (a:ak) (b:Int):rn h (.int a b)=some (.int a b):=id rfl
@[simp] theorem abd (a:Bool):rn h (.bool a)=some (.bool a):=id rfl
@[simp] theorem acs (a:List Nat):rn h (.str a)=some (.str a):=id rfl
@[simp] theorem abb (a:List T) (b:Bool):rn h (.dN a b)=fz h (.dN a b):=id rfl
@[simp] theorem aes (a:List T):rn h (sl a)=fz h (sl a):=by cases a<;>rfl
@[simp] theorem F2 (a b e d:Nat) (c:Bool):rn h (.arr a b e d c)=fz h (.arr a b e d c):=id rfl
@[simp] theorem act (a b c d:Nat):rn h (.ptr a b c d)=none:=Wf (h:=h) a b c d
@[simp] theorem acY:QI h []=some []:=id rfl
@[simp] theorem aby (b:T) (a:List T):QI h (b::a)=dV (rn h b) λd=>dV (QI h a) λc=>some (d::c):=id rfl
@[simp] theorem Vg:oD []=true:=by rw[oD]
@[simp] theorem T6 (b:T) (a:List T):oD (b::a)=(jW b&&oD a):=by rw[oD]
@[simp] theorem XF (a:ak) (b:Int):jW (.int a b)=true:=by rw[jW]
@[simp] theorem Vi (a:Bool):jW (.bool a)=true:=by rw[jW]
@[simp] theorem XE (a:List Nat):jW (.str a)=true:=by rw[jW]
@[simp] theorem Vh (a:List T) (b:Bool):jW (.dN a b)=true:=by rw[jW]
@[simp] theorem T7:jW .gu=true:=by rw[jW]
@[simp] theorem ZP (a:List T):jW (sl a)=true:=by cases a<;>simp[sl]
@[simp] theorem XH (a:List T):jW (.agg a)=oD a:=by rw[jW]
@[simp] theorem XG (a b e d:Nat) (c:Bool):jW (.arr a b e d c)=false:=by simp[jW]
@[simp] theorem Uq:oJ []=true:=by rw[oJ]
@[simp] theorem RH (b:T) (a:List T):oJ (b::a)=(mc b&&oJ a):=by rw[oJ]
@[simp] theorem Vv (a:ak) (b:Int):mc (.int a b)=true:=by rw[mc]
@[simp] theorem Ur (a:Bool):mc (.bool a)=true:=by rw[mc]
@[simp] theorem RJ:mc .gu=true:=by rw[mc]
@[simp] theorem RI (a:List T):mc (.tuple a)=oJ a:=by rw[mc]
@[simp] theorem K3 (a:List T):mW (sl a)=mJ a:=by cases a<;>simp[sl]
@[simp] theorem acf {c:Type} (a:c->T) (b:List c) (d:∀e,mW (a e)=true):mJ (b.map a)=true:=MC a d b
@[simp] theorem abs (a:List T):(sl a).cells=[sl a]:=by cases a<;>rfl
@[simp] theorem acp (a:List T):(sl a).im=true:=by cases a<;>rfl
@[simp] theorem aa5 (a b e d:Nat) (c:Bool):(T.arr a b e d c).im=true:=id rfl
@[simp] theorem aa3 (a b c d:Nat):(T.ptr a b c d).im=true:=id rfl
@[simp] theorem Yi (a b e d:Nat) (c:Bool):(T.arr a b e d c).cells=[.arr a b e d c]:=id rfl
@[simp] theorem Yg (a b c d:Nat):(T.ptr a b c d).cells=[.ptr a b c d]:=id rfl
@[simp] theorem acg (b:Ty) (a:List T) (d:ab) (c:b.u= .slice d):DA cx h b (sl a)=some (.val (.int .i64 a.length) h):=by cases a<;>simp[sl,c]
@[simp] theorem acn (c:Ty) (a:List T) (b:Nat):kH h c (sl a) b=dV (a[b]?) λd=>gh (decide (d.cells.length=c.size)) (some (.val (.jB d.cells) h)):=by cases a<;>simp[sl];rfl
@[simp] theorem PE (a:List T):h.ji (sl a)=some a:=by cases a<;>rfl
def zm{a b:List T}(c:sl a=sl b):a=b:=by
 cases a<;>cases b<;>simp[sl]at c
 ·rfl
 ·rw[c.1,c.2]
def jy{f:Type}{a:f->T}(g:∀d e,a d=a e->d=e){b c:List f}(i:sl (b.map a)=sl (c.map a)):b=c:=by
 have:=zm i;exact(List.map_inj_right g).1 this
@[simp] theorem dW (b:iY) (a:Nat):(h.cons b).get a=if a=h.size then some b else h.get a:=by
 rw[H.get_eq,H.get_eq];show(if a<h.size+1 then(b::h.fy)[h.size+1-1-a]? else none)=_;by_cases c:a=h.size
 ·subst c;rw[aq dB,aq rfl];simp
 ·rw[ao c];by_cases d:a<h.size
  ·rw[aq dB,aq d,show h.size+1-1-a=(h.size-1-a)+1 by omega];simp
  ·rw[ao dB,ao d]
def dQ{a:Nat}{x:iY}(n:h.get a=some x)(d:iY)(e:Nat):(d8 h a d).get e=if e=a then some d else h.get e:=by
 have c:=yr n d;generalize d8 h a d=i at*
 obtain⟨b,j,f⟩:=h;have l:a<b:=H.eJ n;have c:(gh (Nat.blt a b) (dV (kJ f (Nat.sub (Nat.sub b 1) a) d) λk=> @Bool.rec (λ_=>aa H) (some ⟨b,j,k⟩) (some ⟨b,a,k⟩) (Nat.blt a j)))=some i:=c;rw[show Nat.blt a b=true by rw[aH];exact l,ir,kL]at c;by_cases hl:Nat.sub (Nat.sub b 1) a<f.length
 ·rw[aq hl,dY]at c;have r:i.size=b/\i.fy=f.set (b-1-a) d:=by
   cases o:Nat.blt a j<;>rw[o]at c<;>simp only[ar]at c<;>subst c<;>exact⟨rfl,rfl⟩
  obtain⟨p,q⟩:=r;rw[H.get_eq,H.get_eq,p,q];have hl:b-1-a<f.length:=hl;by_cases m:e=a
  ·subst m;rw[aq l,aq rfl];simp[hl]
  ·rw[ao m];simp only;by_cases g:e<b
   ·rw[aq g,aq g,cI dB]
   ·rw[ao g,ao g]
 ·rw[ao hl]at c;simp at c
@[simp] theorem fV (b:Nat) (f:iY):(d8 h b f).size=h.size:=by
 unfold d8;cases a:h.put b f with
 |none=>rfl
 |some g=>
  obtain⟨c,e,i⟩:=h;have a:(gh (Nat.blt b c) (dV (kJ i (Nat.sub (Nat.sub c 1) b) f) λd=> @Bool.rec (λ_=>aa H) (some ⟨c,e,d⟩) (some ⟨c,b,d⟩) (Nat.blt b e)))=some g:=a;obtain⟨_,a⟩:=dT.1 a;obtain⟨d,_,a⟩:=dL.1 a;show g.size=c;cases j:Nat.blt b e<;>rw[j]at a<;>simp only[ar]at a<;>subst a<;>rfl
@[simp] theorem adc (b:Nat) (g:iY):Hp (d8 h b g)=Hp h:=by
 unfold d8;cases a:h.put b g with
 |none=>rfl
 |some i=>
  obtain⟨d,f,j⟩:=h;have a:(gh (Nat.blt b d) (dV (kJ j (Nat.sub (Nat.sub d 1) b) g) λe=> @Bool.rec (λ_=>aa H) (some ⟨d,f,e⟩) (some ⟨d,b,e⟩) (Nat.blt b f)))=some i:=a;obtain⟨_,a⟩:=dT.1 a;obtain⟨e,c,a⟩:=dL.1 a;rw[kL]at c;split at c
  ·simp only[ar]at c;subst c;show Hp i=_;unfold Hp;cases k:Nat.blt b f<;>rw[k]at a<;>simp only[ar]at a<;>subst a<;>simp
  ·simp at c
@[simp] theorem E5 (a:Nat):ff h h a=true:=by
 unfold ff;cases h.get a<;>simp
def Az{b:Nat}{e:iY}(d:h.get b=some e)(f:iY){a:Nat}(c:a≠b):ff h (d8 h b f) a=true:=by
 unfold ff;rw[dQ d,ao c];cases h.get a<;>simp
def MU(h:H)(a:List T):aa T:=dV (jl h 0 (jM a)) λb=>some (cn b)
@[simp] theorem Wi (a:T) (b:a.im=true):MU h [a]=rn h a:=by
 cases a<;>first|rfl|(simp[T.im]at b)
def H5(a:List T):(dV (jl h 0 (.tuple a)) λc=>some (cn c))=dV (fP (rn h) a) λb=>some (.tuple b):=by
 show(dV (dV (fP (kr h 0) a) λb=>some (T.tuple b)) λc=>some (cn c))=_;unfold rn;rw[rQ];cases fP (kr h 0) a with
 |none=>rfl
 |some b=>simp[us]
@[simp] theorem aeu (b c:T) (a:List T):MU h (b::c::a)=dV (fP (rn h) (b::c::a)) λd=>some (.tuple d):=H5 (b::c::a)
def Q8(h:H)(a:List T)(b:T):Prop:=Hp h/\MU h a=some b
def TC(a:List T)(b:T):Q8 h a b=(Hp h/\MU h a=some b):=rfl
attribute [simp] TC
end
section
variable {P:ai}{cx:Ctx}{cf:iX}{mask:Nat}
def pt:List (Nat×iq)->aj->aa iq
 | [],_=>none
 |(b,d)::c,a=>if a=b then some d else pt c a
def ht:List (Nat×kU)->aj->aa kU
 | [],_=>none
 |(b,d)::c,a=>if a=b then some d else ht c a
@[simp] theorem adJ (a:aj):pt [] a=none:=id rfl
@[simp] theorem ab9 (b:Nat) (d:iq) (c:List (Nat×iq)) (a:aj):pt ((b,d)::c) a=if a=b then some d else pt c a:=id rfl
@[simp] theorem aem (a:aj):ht [] a=none:=id rfl
@[simp] theorem aco (b:Nat) (d:kU) (c:List (Nat×kU)) (a:aj):ht ((b,d)::c) a=if a=b then some d else ht c a:=id rfl
def fI{k:Env->H->Out}(d:Nat)(s:d<9223372036854775808)(f:Nat->fX->H->Prop){j:iO}
 (p:∀c a h,c<d->binop .add (.int .i64 (c:Int)) (.int .i64 1)=some (.int .i64 ((c:Int)+1))->f c a h->W (k ⟨a,.nil⟩ h) (xO (λe h=>e.tmps= .nil/\f (c+1) e.vars h) j))
 (b:∀a h,f d a h->W (k ⟨a,.nil⟩ h) (xO (λe h=>False) j))
 {o:Nat} (q:d<o) {a:fX} {h:H} (i:f 0 a h):W (oo k o ⟨a,.nil⟩ h) j:=by
 refine QY d f (λc a h u i=> ?_) q (aw d) i;rcases aF c d with n|t
 ·obtain⟨g,e,l,m,b⟩:=p c a h n (iy dB dB) i;refine⟨g,e,l,m,?_⟩;cases g with
  |normal=>exact⟨b.1,n,b.2⟩
  |exit r=>exact b
  |ret=>exact b
 ·have:c=d:=dB;subst this;obtain⟨g,e,l,m,b⟩:=b a h i;refine⟨g,e,l,m,?_⟩;cases g with
  |normal=>exact b.elim
  |exit r=>exact b
  |ret=>exact b
def y8{c:Func}(a:xf ⟨c,mask,false,none⟩=true):∃b,c.body=some b:=by
 unfold xf at a;simp only at a;cases d:c.body with
 |none=>rw[d]at a;simp at a
 |some b=>exact⟨b,rfl⟩
def YB(B:P.follows .mixedOrders=true)(iZ:jd P cx){l:aj}{b:Func}{r:DL}(g:GA P cx l b mask r)(x:nH P cx cf){a:List T}{n:T}(hl:mJ a=true)(C:a.length<=b.ntmps)(i:Nat)
 (I:∀v,nI v 0 a->W (jG cx cf i mask r (b.body.getD .skip) ⟨v,.nil⟩ hE) (Cs cx mask b.results.toList λt h=>Q8 h t n)):kY P cx l a n:=by
 have Q:∃c,cn c=n/\sX cx cf i b mask false a hE=some (c,hE):=by
  obtain⟨u,G,_,A⟩:=mw mask b.ntmps 0 a C;obtain⟨R,y,h,d,J,t,hr,D,f⟩:=Dd (I u A);have d:=qk _ g.dr _ _ _ d;obtain⟨w,e⟩:=y8 g.ok;rw[e]at d;unfold MU at f;obtain⟨c,f,s⟩:=dL.1 f;simp only[ar]at s;refine⟨c,s,?_⟩;unfold sX;rw[e];simp only;rw[G,dY];have d:j8 cx cf i mask w ⟨u,.nil⟩ ⟨0,0,[]⟩=some (R,y,h):=d;rw[d,dY,kP];have E:=oE hr;rcases J with rfl|rfl<;>(simp only;rw[E,dY];exact HK D f)
 obtain⟨c,rfl,e⟩:=Q;have z:kY P cx l a c:=yt (lN _ hl) λj p q k o m=>
  pw (F:=⟨b,mask,false,none⟩) B iZ g.at_ g.ok cf x i a hE c hE e j p q k o m
 intro j p q k h o m;refine(z j p q k h o m).mono λU V ⟨⟨S,K,L,M,N⟩,O⟩=> ?_;exact⟨⟨S,K.cn,L,M,N⟩,O⟩
end
end
noncomputable section
structure Fr(lo:Nat)(h h':H):Prop where
 size:h.size<=h'.size
 hp:Hp h->Hp h'
 get:∀c,c<lo->h'.get c=h.get c
 low:lo<=h.low->lo<=h'.low
def Fr.refl(a:Nat)(h:H):Fr a h h:=⟨au _,id,λ_ _=>rfl,id⟩
def Fr.trans{d:Nat}{h g i:H}(a:Fr d h g)(b:Fr d g i):Fr d h i:=⟨aS a.size b.size,λc=>b.hp (a.hp c),λf j=>(b.get f j).trans (a.get f j),λc=>b.low (a.low c)⟩
def Fr.cons{lo:Nat}{h:H}(hl:lo<=h.size)(a:iY):Fr lo h (h.cons a):=⟨dC,dC,λb c=>by simp;omega,id⟩
def N6(h:H)(b:Nat)(i:iY)(c:Nat)(k:c<=h.low)(m:c<=b):c<=(d8 h b i).low:=by
 unfold d8;cases a:h.put b i with
 |none=>exact k
 |some j=>
  obtain⟨d,g,l⟩:=h;have a:(gh (Nat.blt b d) (dV (kJ l (Nat.sub (Nat.sub d 1) b) i) λf=> @Bool.rec (λ_=>aa H) (some ⟨d,g,f⟩) (some ⟨d,b,f⟩) (Nat.blt b g)))=some j:=a;obtain⟨_,a⟩:=dT.1 a;obtain⟨f,_,a⟩:=dL.1 a;show c<=j.low;cases n:Nat.blt b g<;>rw[n]at a<;>simp only[ar]at a<;>subst a
  ·exact k
  ·exact m
def Fr.put{b:Nat}{h:H}{a:Nat}{x:iY}(g:h.get a=some x)(f:b<=a)(d:iY):Fr b h (d8 h a d):=⟨dC,dC,λc j=>by rw[dQ g,ao dB],λi=>N6 h a d b i f⟩
def sj(h:H)(g:Nat)(d:T)(i:Nat)(b:List T):Prop:=
 (d= .dN [] false/\b=[])\/∃a c j f,g<=a/\d= .arr a c 0 b.length false/\h.get a=some ⟨i,c,j,f,false,b⟩
def sj.nil(h:H)(a b:Nat):sj h a (.dN [] false) b []:= .inl ⟨rfl,rfl⟩
def sj.cons{h:H}{lo:Nat}{f:T}{d:Nat}{b:List T}(a:sj h lo f d b)(n:iY):sj (h.cons n) lo f d b:=by
 rcases a with a|⟨g,i,m,j,k,l,c⟩
 ·exact .inl a
 ·have:=H.eJ c;exact .inr ⟨g,i,m,j,k,l,by rw[dW,ao dB];exact c⟩
def sj.im{h:H}{d:Nat}{a:T}{f:Nat}{b:List T}(c:sj h d a f b):a.im=true:=by
 rcases c with⟨rfl,_⟩|⟨g,i,m,j,k,rfl,l⟩<;>rfl
def sj.cells{h:H}{d:Nat}{a:T}{f:Nat}{b:List T}(c:sj h d a f b):a.cells=[a]:=by
 rcases c with⟨rfl,_⟩|⟨g,i,m,j,k,rfl,l⟩<;>rfl
def sj.fz{h:H}{i:Nat}{d:T}{j:Nat}{c b:List T}(g:sj h i d j c)(a:fP (xh h 11) c=some b):TI.fz h d=some (sl b):=by
 rcases g with⟨rfl,rfl⟩|⟨k,l,o,m,n,rfl,f⟩
 ·have a:some []=some b:=a;simp only[ar]at a;subst a;simp
 ·rw[vZ,gH,f];simp[a]
def sj.rn{h:H}{i:Nat}{d:T}{j:Nat}{a b:List T}(c:sj h i d j a)(g:fP (xh h 11) a=some b):TI.rn h d=some (sl b):=by
 rw[<-c.fz g];rcases c with⟨rfl,_⟩|⟨k,l,p,m,n,rfl,o⟩<;>rfl
@[simp] theorem XT {cx:Ctx} {mask:Nat} {e:Env} {h:H} (a:List ah) (b c:ab):jn (.call ⟨.builtin .append,a.toArray,#[b,c]⟩) cx mask e h=dV (fP (fR cx mask e) a) λd=>(match d with| [f,g]=>iM cx h b c f g|_=>none):=rfl
def mp{b:Nat}{a:List T}(c:∀e∈a,e.cells.length=b):fits b a=true:=by
 cases a with
 |nil=>rfl
 |cons e a=>
  show Nat.beq (kR e.cells) b=true;rw[jH,c e dC];simp
def oU{h:H}{b bytes:Nat}{a:List T}(f:∀e∈a,e.cells.length=b)(c:1<=bytes)(d:a.length*bytes<=70368744177664):
 h.jb b bytes [] a=some (.arr h.size 0 0 a.length false,h.cons ⟨b,0,0,false,false,a⟩):=by
 unfold H.jb;rw[pO,dY,jH,iE,dY,mp f,mp dC];simp[c,d]
def wi{h:H}{f bytes c d i:Nat}{j:Bool}{a b:List T}(g:h.get c=some ⟨f,d,i,j,false,a⟩)(m:∀e∈b,e.cells.length=f)(k:1<=bytes)(l:(a.length+b.length)*bytes<=70368744177664):
 h.mt f bytes c d a.length b=some (.arr c (d+1) 0 (a++b).length false,d8 h c ⟨f,d+1,i+1,false,false,a++b⟩):=by
 unfold H.mt;rw[g];simp only[dY,nO,au,bg,aL,pO,jH,iE,mp m,yr g];simp[k,l,aU]
def sj.app{cx:Ctx}{h:H}{k:Nat}{c:T}{a:Nat}{d:List T}(o:sj h k c a d)(w:k<=h.size){r s l:ab}{B C b:Ty}(F:cx.ty r=some B)(G:B.u= .slice l)(I:cx.ty l=some b)(J:cx.ty s=some C)(K:C.u= .slice l)(z:b.size=a)(v:1<=b.bytes)
 {x:T} {xs:List T} (M:h.ji x=some xs) (p:∀e∈xs,e.cells.length=a) (y:(d.length+xs.length)*b.bytes<=70368744177664):
 ∃D m,iM cx h r s c x=some (.val D m)/\sj m k D a (d++xs)/\Fr k h m:=by
 have L:iM cx h r s c x=jz (h.append b.size b.bytes c xs):=by
  unfold iM oP mh;rw[F,dY,J,dY];simp only[G,I,K,M,dY];rw[z,mp p,ir]
 rw[L,z];cases xs with
 |nil=>
  refine⟨c,h,?_,by simpa using o,Fr.refl _ _⟩;show jz (gh (oN c) (some (c,h)))=_;rcases o with⟨rfl,_⟩|⟨i,j,t,E,_,rfl,_⟩<;>rfl
 |cons f g=>
  rcases o with⟨rfl,rfl⟩|⟨i,j,t,E,A,rfl,q⟩
  ·refine⟨.arr h.size 0 0 (f::g).length false,h.cons ⟨a,0,0,false,false,f::g⟩,?_,.inr ⟨h.size,0,0,false,w,rfl,dC⟩,Fr.cons w _⟩;show jz (h.jb a b.bytes [] (f::g))=_;rw[oU p v (by simpa using y)];rfl
  ·refine⟨.arr i (j+1) 0 (d++f::g).length false,d8 h i ⟨a,j+1,t+1,false,false,d++f::g⟩,?_,.inr ⟨i,j+1,t+1,false,A,rfl,by rw[dQ q,aq rfl]⟩,Fr.put q A _⟩;show jz (h.mt a b.bytes i j d.length (f::g))=_;rw[wi q p v y];rfl
def sj.nq{cx:Ctx}{h:H}{c:Nat}{o:T}{a:Nat}{i:List T}(v:sj h c o a i)(s:c<=h.size){j k:ab}{n d:Ty}(l:cx.ty j=some n)(m:n.u= .slice k)(p:cx.ty k=some d)(w:d.size=a)(q:1<=d.bytes)
 {e:T} (r:e.cells.length=a) (t:(i.length+1)*d.bytes<=70368744177664):
 ∃g b,iM cx (h.cons ⟨a,0,0,true,false,[e]⟩) j j o (.arr h.size 0 0 1 false)=some (.val g b)/\sj b c g a (i++[e])/\Fr c h b:=by
 obtain⟨g,b,y,z,A⟩:=(v.cons ⟨a,0,0,true,false,[e]⟩).app (x:= .arr h.size 0 0 1 false) (xs:=[e]) dD l m p l m w q (by rw[gH];simp) (by simpa using r) (by simpa using t);exact⟨g,b,y,z,(Fr.cons s _).trans A⟩
@[simp] theorem Py (h:H) (a:iY):(h.cons a).low=h.low:=id rfl
@[simp] theorem BZ (h:H) (f c:iY) (g:Nat) (j:g=h.size) (hl:h.low<=h.size):d8 (h.cons f) g c=h.cons c:=by
 subst j;obtain⟨a,b,d⟩:=h;unfold d8;have:(H.cons ⟨a,b,d⟩ f).put a c=some (H.cons ⟨a,b,d⟩ c):=by
  show(gh (Nat.blt a (a+1)) (dV (kJ (f::d) (Nat.sub (Nat.sub (a+1) 1) a) c) λi=> @Bool.rec (λ_=>aa H) (some ⟨a+1,b,i⟩) (some ⟨a+1,a,i⟩) (Nat.blt a b)))=some ⟨a+1,b,c::d⟩;rw[show Nat.blt a (a+1)=true by rw[aH];omega,ir,kL,show Nat.sub (Nat.sub (a+1) 1) a=0 by show a+1-1-a=0;omega];simp only[bh,Nat.zero_lt_succ,bg,cQ,dY];rw[show Nat.blt a b=false by rw[du];intro k;rw[aH]at k;simp at hl;omega]
 rw[this];rfl
@[simp] theorem ab4 (h:H) (i d:iY) (a:Nat) (j:a<h.size):d8 (h.cons i) a d=(d8 h a d).cons i:=by
 obtain⟨b,c,f⟩:=h;have j:a<b:=j;have k:(H.cons ⟨b,c,f⟩ i).put a d=gh (Nat.blt a (b+1)) (dV (kJ (i::f) (Nat.sub (Nat.sub (b+1) 1) a) d) λg=> @Bool.rec (λ_=>aa H) (some ⟨b+1,c,g⟩) (some ⟨b+1,a,g⟩) (Nat.blt a c)):=rfl;have l:(⟨b,c,f⟩:H).put a d=gh (Nat.blt a b) (dV (kJ f (Nat.sub (Nat.sub b 1) a) d) λg=> @Bool.rec (λ_=>aa H) (some ⟨b,c,g⟩) (some ⟨b,a,g⟩) (Nat.blt a c)):=rfl;unfold d8;rw[k,l,show Nat.blt a (b+1)=true by rw[aH];omega,show Nat.blt a b=true by rw[aH];exact j,ir,ir,kL,kL,
  show Nat.sub (Nat.sub (b+1) 1) a=Nat.sub (Nat.sub b 1) a+1 by show b+1-1-a=b-1-a+1;omega]
 by_cases hl:Nat.sub (Nat.sub b 1) a<f.length
 ·rw[aq (by simpa using hl),aq hl,dY,dY];cases Nat.blt a c<;>rfl
 ·rw[ao (by simpa using hl),ao hl];rfl
def ed(a:List T)(b:Nat)(c:List T):ml (.agg a) b c=dV (kQ a b c) λd=>some (.agg d):=rfl
attribute [simp] ed
@[simp] theorem XI (b:ak) (c:Int) (a:T):ml (.int b c) 0 [a]=some a:=id rfl
@[simp] theorem Vj (b:Bool) (a:T):ml (.bool b) 0 [a]=some a:=id rfl
@[simp] theorem Wh (a:Nat):lA [] a=false:=id rfl
@[simp] theorem UD (b d a:Nat) (c:List (Nat×Nat)):lA ((b,d)::c) a=(decide (b=a)||lA c a):=by
 unfold lA;rw[List.any_cons];congr 1
@[simp] theorem aaZ (a b:Nat):Aa [] a b=false:=id rfl
@[simp] theorem X5 (c d a b:Nat) (f:List (Nat×Nat)):Aa ((c,d)::f) a b=((decide (c=a)&&decide (d=b))||Aa f a b):=by
 unfold Aa;rw[List.any_cons];congr 1
@[simp] theorem JW (a:List (Nat×Nat)) (b:Nat) (h:H) (c:List (Nat×Nat)):v8 a b h h c=True:=by unfold v8;simp
@[simp] theorem aaH {f:Type} (a b:Nat) (d:f) (c:List (Nat×f)):List.lookup a ((b,d)::c)=if a=b then some d else List.lookup a c:=by
 rw[List.lookup_cons];by_cases h:a=b
 ·subst h;simp
 ·rw[ao h,show(a==b)=false by simpa using h]
def Lh(a:T):Nat:=a.cells.length
@[simp] theorem acV (a:ak) (b:Int):Lh (.int a b)=1:=id rfl
@[simp] theorem abp (a:Bool):Lh (.bool a)=1:=id rfl
@[simp] theorem acU (a:List Nat):Lh (.str a)=1:=id rfl
def KG(cx:Ctx)(h:H)(c:Ty)(d:T)(f a b:aa Nat):aa lH:=gh (jp cx h c.u d) (gh (yD a b) (val h (o9 (asSlice c.u d) f a b)))
def XR(cx:Ctx)(mask:Nat)(e:Env)(a:aa ah):aa (aa Nat):=jQ cx mask e a
section
variable {cx:Ctx}{mask:Nat}{e:Env}{h:H}
@[simp] theorem aaq:XR cx mask e none=some none:=id rfl
@[simp] theorem aap (a:ah):XR cx mask e (some a)=dV (fR cx mask e a) λc=>dV (pR c) λb=>some (some b):=id rfl
@[simp] theorem aas (g:ab) (a:ah) (d b c:aa ah):jn (.slice g a d b c) cx mask e h=dV (cx.ty g) λf=>dV (fR cx mask e a) λa=>dV (XR cx mask e d) λd=>dV (XR cx mask e b) λb=>dV (XR cx mask e c) λc=>KG cx h f a d b c:=by
 show(dV (cx.ty g) λf=>dV (fR cx mask e a) λa=>gh (jp cx h f.u a)<|dV (jQ cx mask e d) λd=>dV (jQ cx mask e b) λb=>dV (jQ cx mask e c) λc=>gh (yD b c) (val h (o9 (asSlice f.u a) d b c)))=_;unfold XR KG;congr 1;funext f;congr 1;funext a;cases jp cx h f.u a with
 |true=>rfl
 |false=>
  simp only[MY];cases jQ cx mask e d<;>simp;cases jQ cx mask e b<;>simp;cases jQ cx mask e c<;>simp
def SS{d:Type}(c:List d)(b a:Nat)(g:b<=a)(f:a<=c.length):J9 c b a=some ((c.drop b).take (a-b)):=by
 unfold J9;rw[lU,aq dB,dY,nO];rw[aq dD];rfl
def NN(d:List T)(a b:Nat)(m:a<=b)(l:b<=d.length)(f c:aa Nat)(k:f6 f 0=a)(g:f6 c d.length=b):o9 (sl d) f c none=some (sl ((d.drop a).take (b-a))):=by
 cases d with
 |nil=>
  have n:b=0:=by simpa using l
  subst n;have o:a=0:=dB;subst o;show(gh (Nat.beq (f6 f 0) 0) (gh (Nat.beq (f6 c 0) 0) (some T.gu)))=_;have g:f6 c 0=0:=g;rw[k,g];rfl
 |cons j i=>
  show tO (j::i) false (f6 f 0) (f6 c (kR (j::i))) none=_;rw[jH,k,g];unfold tO;rw[SS _ _ _ m l,dY,show Nat.ble a b=true by simpa using m,ir];cases (List.take (b-a) (List.drop a (j::i)))<;>rfl
def IY{d i:Ty}{f:ab}(g:d.u= .slice f)(ht:cx.ty f=some i){a:List T}(l:∀j∈a,j.cells.length=i.size){c b:aa Nat}(n:f6 c 0<=f6 b a.length)(m:f6 b a.length<=a.length):
 KG cx h d (sl a) c b none=some (.val (sl ((a.drop (f6 c 0)).take (f6 b a.length-f6 c 0))) h):=by
 unfold KG;have k:jp cx h d.u (sl a)=true:=by
  rw[g];unfold jp;simp only[ht];cases a with
  |nil=>rfl
  |cons j o=>exact mp l
 rw[k,ir,show yD b none=true from rfl,ir,show asSlice d.u (sl a)=sl a by rw[g];rfl,NN a _ _ n m c b rfl rfl];rfl
@[simp] theorem adu {j:Type} (i d:Ty) (g:ab) (a:j->T) (b:List j) (c:Nat) (m:i.u= .slice g) (ht:cx.ty g=some d) (k:∀n,Lh (a n)=d.size) (l:c<=b.length):KG cx h i (sl (b.map a)) none (some c) none=some (.val (sl ((b.take c).map a)) h):=by
 rw[IY m ht (by simpa using λf _=>show(a f).cells.length=d.size from k f) (by simp[f6]) (by simpa[f6]using l)];simp[f6,List.map_take]
@[simp] theorem ZN {j:Type} (i d:Ty) (g:ab) (a:j->T) (b:List j) (c:Nat) (m:i.u= .slice g) (ht:cx.ty g=some d) (k:∀n,Lh (a n)=d.size) (l:c<=b.length):KG cx h i (sl (b.map a)) (some c) none none=some (.val (sl ((b.drop c).map a)) h):=by
 rw[IY m ht (by simpa using λf _=>show(a f).cells.length=d.size from k f) (by simpa[f6]using l) (by simp[f6])];simp only[f6,aG,<-List.map_drop];rw[bJ dC]
@[simp] theorem ab3 {k:Type} (j f:Ty) (i:ab) (a:k->T) (d:List k) (c b:Nat) (o:j.u= .slice i) (ht:cx.ty i=some f) (l:∀p,Lh (a p)=f.size) (n:c<=b) (m:b<=d.length):KG cx h j (sl (d.map a)) (some c) (some b) none=some (.val (sl (((d.drop c).take (b-c)).map a)) h):=by
 rw[IY o ht (by simpa using λg _=>show(a g).cells.length=f.size from l g) (by simpa[f6]using n) (by simpa[f6]using m)];simp[f6,List.map_take,List.map_drop]
@[simp] theorem KF (g k:Ty) (i:ab) (a c f d b:Nat) (s:Bool) (l:iY) (j:g.u= .slice i) (ht:cx.ty i=some k) (n:h.get a=some l) (p:l.sz=k.size) (o:b<=d):KG cx h g (.arr a c f d false) none (some b) none=some (.val (.arr a c f b false) h):=by
 unfold KG;have m:jp cx h g.u (.arr a c f d false)=true:=by
  rw[j];unfold jp;simp only[ht,n,p,Nat.beq_refl]
 rw[m,ir,show yD (some b) none=true from rfl,ir,show asSlice g.u (.arr a c f d false)= .arr a c f d false by rw[j];rfl];show val h (gh (Nat.ble 0 b) (gh (Nat.ble b d) (dV (hU (Nat.add f 0)) λr=>dV (hU (Nat.sub b 0)) λq=>some (T.arr a c r q false))))=_;simp[o]
def Yd(cx:Ctx)(h:H)(d b:ab)(c:Ty)(a:T):aa lH:=match c.u with
 | .slice _=>val h (C4 cx b a)
 | .str=>(match a with
  | .str _=>val h (conv cx b a)
  |_=>val h (GM cx h d a))
 |_=>val h (conv cx b a)
@[simp] theorem VO (b a:ab) (c:ah):jn (.convert b a c) cx mask e h=dV (cx.ty b) λ_=>dV (fR cx mask e c) λd=>dV (cx.ty a) λf=>Yd cx h b a f d:=rfl
def Gf{k d:ab}{b:Ty}{c g:ak}{a:Int}(i:cx.ty d=some b)(f:b.u= .int c)(j:Ku c a=a):Yd cx h k d b (.int g a)=some (.val (.int c a) h):=by
 unfold Yd;rw[f];show val h (dV (cx.ty d) λb=>match b.u with
  | .int c=>(match(T.int g a)with| .int _ a=>pU c a|_=>none)
  | .str=>_
  |_=>none)=_
 rw[i,dY,f];simp[pU,j]
@[simp] theorem acT (k c:ab) (b:Ty) (j:ak) (a:Int) (g:cx.ty c=some b) (i:b.u= .int .i64) (d: -9223372036854775808<=a) (f:a<9223372036854775808):Yd cx h k c b (.int j a)=some (.val (.int .i64 a) h):=Gf g i (jL d f)
@[simp] theorem Sa (f:ab) (a b:ah):jn (.makeSlice f a b) cx mask e h=dV (cx.ty f) λd=>(match d.u with
 | .slice g=>dV (cx.ty g) λc=>dV (fR cx mask e a) λa=>dV (fR cx mask e b) λb=>dV (pR a) λa=>dV (pR b) λb=>
  gh (decide (1<=c.size))<|gh (decide (1<=c.bytes))<|gh (decide (a<=b)) (gh (decide (b*c.bytes<=70368744177664)) (some (.val (.arr h.size 0 0 a false) (h.cons ⟨c.size,0,0,decide (a=b),false,List.replicate a c.kl⟩))))
 |_=>none):=by
 show(dV (cx.ty f) λd=>_)=_;congr 1;funext d;cases d.u<;>first|rfl|skip
 rename_i g;simp only[nQ,H.kF,Lx,uV,EC,Au];rfl
@[simp] theorem Uv (b:aj) (a:List ah):jn (.makeFunc (.func b) #[] a.toArray) cx mask e h=dV (fP (fR cx mask e) a) λc=>some (.val (.func b c) h):=by
 show(dV (pZ cx mask e a) λa=>val h (some (T.func b a)))=_;simp
end
def sj.Tg{cx:Ctx}{h:H}{d:Nat}{q:T}{c:Nat}{k:Type}{a:k->T}{i:List k}(y:sj h d q c (i.map a))(v:d<=h.size){j m:ab}{p f:Ty}(n:cx.ty j=some p)(o:p.u= .slice m)(r:cx.ty m=some f)(z:f.size=c)(s:1<=f.bytes)
 (t:∀x,Lh (a x)=c) (xs:List k) (w:(i.length+xs.length)*f.bytes<=70368744177664):
 ∃g b,iM cx h j j q (sl (xs.map a))=some (.val g b)/\sj b d g c ((i++xs).map a)/\Fr d h b:=by
 obtain⟨g,b,A,B,C⟩:=y.app (x:=sl (xs.map a)) (xs:=xs.map a) v n o r n o z s dC (by simpa using λl _=>show(a l).cells.length=c from t l) (by simpa using w);exact⟨g,b,A,by rw[List.map_append];exact B,C⟩
def sj.QL{cx:Ctx}{h:H}{f:Nat}{o:T}{d:Nat}{l:Type}{b:l->T}{j:List l}(x:sj h f o d (j.map b))(v:f<=h.size){k m:ab}{n g:Ty}(p:cx.ty k=some n)(q:n.u= .slice m)(r:cx.ty m=some g)(y:g.size=d)(s:1<=g.bytes)
 (t:∀a,Lh (b a)=d) (a:l) (w:(j.length+1)*g.bytes<=70368744177664):
 ∃i c,iM cx (h.cons ⟨d,0,0,true,false,[b a]⟩) k k o (.arr h.size 0 0 1 false)=some (.val i c)/\sj c f i d ((j++[a]).map b)/\Fr f h c:=by
 obtain⟨i,c,z,A,B⟩:=x.nq v p q r y s (e:=b a) (t a) (by simpa using w);exact⟨i,c,z,by rw[List.map_append];exact A,B⟩
def sj.fzM{h:H}{j:Nat}{b:T}{k:Nat}{d:Type}{f:d->T}{a:List d}(i:sj h j b k (a.map f))(g:∀c,xh h 11 (f c)=some (f c)):TI.rn h b=some (sl (a.map f)):=i.rn (Ci _ _ _ g)
def iC{c:ai}{cx:Ctx}{tb:fN}{b:iq}(l:c.follows .mixedOrders=true)(iZ:jd c cx){g:aj}{d:Func}{mask:Nat}{f:DL}(o:GA c cx g d mask f)(i:b.α->Nat)(hl:∀a,mJ (b.A a)=true)(m:∀a,(b.A a).length<=d.ntmps)
 (n:∀a,b.pre a->∀j,nI j 0 (b.A a)->W (jG cx (qW c cx tb) (i a) mask f (d.body.getD .skip) ⟨j,.nil⟩ hE) (Cs cx mask d.results.toList λp h=>Q8 h p (b.R a))):b.Ok c cx g:=
 λa k=>YB l iZ o (CZ c cx tb) (hl a) (m a) (i a) (n a k)
attribute [simp] Qk
end
noncomputable section
abbrev qZ(a:T)(c:List T)(g:Nat):Prop:=a.cells=c/\Lh a=g/\(∀d e,ml a d e=dV (kQ c d e) λh=>some (.agg h))/\a.im=true/\cn a=a/\(∀b,rn b a=some a)/\(∀b f,xh b (f+2) a=some a)/\jW a=true/\mW a=true
def mP{a b:List Nat}:T.str a=T.str b->a=b:=dC 
def io{c:ak}{a b:Int}:T.int c a=T.int c b->a=b:=dC 
def sW{a b:Bool}:T.bool a=T.bool b->a=b:=dC 
def iA{f:Type}{a:f->T}(h:∀d e,a d=a e->d=e)(b c:List f)(g:sl (b.map a)=sl (c.map a)):b=c:=jy h g
def AY(b:U)(a:Nat)(c:T):Ty:=⟨b,1,a,false,[c]⟩
def tL(d:List (Nat×Nat))(c a:Nat)(b:Bool)(e:List T):Ty:=⟨.struct d,c,a,b,e⟩
def Rt(d c e a:Nat)(b:Bool)(f:List T):Ty:=⟨.array d c,e,a,b,f⟩
@[simp] theorem aeW (b:U) (a:Nat) (c:T):(AY b a c).size=1/\(AY b a c).bytes=a/\(AY b a c).u=b:=⟨rfl,rfl,rfl⟩
@[simp] theorem ae1 (d:List (Nat×Nat)) (a c:Nat) (e:Bool) (b:List T):(tL d a c e b).size=a/\(tL d a c e b).bytes=c/\(tL d a c e b).u= .struct d/\(tL d a c e b).kl= .agg b/\(tL d a c e b).zero=b/\∀f,ko (tL d a c e b) f=dV (takeN a f) λg=>some (.agg g):=⟨rfl,rfl,rfl,rfl,rfl,λ_=>rfl⟩
abbrev Nz(a:ak)(b:Nat):Ty:=AY (.int a) b (.int a 0)
abbrev tyB:Ty:=AY .bool 1 (.bool false)
abbrev tyZ:Ty:=AY .str 16 (.str [])
abbrev AX(a:Nat):Ty:=AY (.slice a) 24 (.dN [] false)
abbrev Nl(a:Nat):Ty:=AY (.ptr a) 8 .kw
@[simp] theorem aeY (d:ak) (c:Nat) (b:T):(AY (.int d) c b).kl=b/\∀a,ko (AY (.int d) c b) a=a[0]? :=⟨rfl,λa=>kA a 0⟩
@[simp] theorem ae0 (c:Nat) (b:T):(AY .bool c b).kl=b/\∀a,ko (AY .bool c b) a=a[0]? :=⟨rfl,λa=>kA a 0⟩
@[simp] theorem aeU (c:Nat) (b:T):(AY .str c b).kl=b/\∀a,ko (AY .str c b) a=a[0]? :=⟨rfl,λa=>kA a 0⟩
@[simp] theorem aeV (d c:Nat) (b:T):(AY (.slice d) c b).kl=b/\∀a,ko (AY (.slice d) c b) a=a[0]? :=⟨rfl,λa=>kA a 0⟩
@[simp] theorem aeX (d c:Nat) (b:T):(AY (.ptr d) c b).kl=b/\∀a,ko (AY (.ptr d) c b) a=a[0]? :=⟨rfl,λa=>kA a 0⟩
@[simp] theorem aeZ (c:Nat) (b:T):(AY .func c b).kl=b/\∀a,ko (AY .func c b) a=a[0]? :=⟨rfl,λa=>kA a 0⟩
def je{b:ai}{cx:Ctx}{d:aj}{a:Func}(e:Nat)(c:DL)(f:b.funcs[d]? =some a)(g:xf ⟨a,e,false,none⟩=true:=by kernel_rfl)(h:mL c (a.body.getD .skip)=true:=by kernel_rfl):GA b cx d a e c:=⟨f,g,h⟩
def gq(cx:Ctx)(c:Func)(f:Nat)(e:Bool):qm:=λb g a d=>sX cx b g c f e a d
def aeo{a:ai}{cx:Ctx}(g:a.follows .mixedOrders=true)(iZ:jd a cx){e:aj}{b:Func}{d:Nat}{c:Bool}(f:a.funcs[e]? =some b)(h:xf ⟨b,d,c,none⟩=true:=by kernel_rfl):mg a cx e (gq cx b d c):=pw (F:=⟨b,d,c,none⟩) g iZ f h
end
end Go.TI
namespace Go.Proofs.YtmaeadedikngoaaGreatDoor
noncomputable section
open Go Go.TI
structure ig where
 name:List Nat
 index:Int
 size:Int
 tK:Bool
 j7:Int
 deriving DecidableEq,Inhabited
def ig.cs(a:ig):List T:=[.str a.name,dG a.index,dG a.size,.bool a.tK,dG a.j7]
def ig.t(a:ig):T:= .agg a.cs
@[simp] theorem ig.ag (a:ig):qZ a.t [.str a.name,dG a.index,dG a.size,.bool a.tK,dG a.j7] 5:=by
 unfold ig.t ig.cs;exact⟨rfl,rfl,λ_ _=>rfl,rfl,by simp[jS],λ_=>by simp,λ_ _=>by simp,dC,dC⟩
@[simp] theorem ig.fold (a0:List Nat) (a1:Int) (a2:Int) (a3:Bool) (a4:Int):T.agg [.str a0,dG a1,dG a2,.bool a3,dG a4]=ig.t ⟨a0,a1,a2,a3,a4⟩:=rfl
@[simp] theorem ig.eta (a:ig):ig.mk a.name a.index a.size a.tK a.j7=a:=rfl
def ig.inj{a b:ig}(c:a.t=b.t):a=b:=by
 rcases a with⟨_,_,_,_,_⟩;rcases b with⟨_,_,_,_,_⟩;simp only[ig.t,ig.cs,T.agg.injEq,aK]at c;obtain⟨d,e,f,g,h,_⟩:=c;obtain rfl:=mP d;obtain rfl:=io e;obtain rfl:=io f;obtain rfl:=sW g;obtain rfl:=io h;rfl
structure iF where
 name:List Nat
 rW:Bool
 deriving DecidableEq,Inhabited
def iF.cs(a:iF):List T:=[.str a.name,.bool a.rW]
def iF.t(a:iF):T:= .agg a.cs
@[simp] theorem iF.ag (a:iF):qZ a.t [.str a.name,.bool a.rW] 2:=by
 unfold iF.t iF.cs;exact⟨rfl,rfl,λ_ _=>rfl,rfl,by simp[jS],λ_=>by simp,λ_ _=>by simp,dC,dC⟩
@[simp] theorem iF.fold (a0:List Nat) (a1:Bool):T.agg [.str a0,.bool a1]=iF.t ⟨a0,a1⟩:=rfl
@[simp] theorem iF.eta (a:iF):iF.mk a.name a.rW=a:=rfl
def iF.inj{a b:iF}(c:a.t=b.t):a=b:=by
 rcases a with⟨_,_⟩;rcases b with⟨_,_⟩;simp only[iF.t,iF.cs,T.agg.injEq,aK]at c;obtain⟨d,e,_⟩:=c;obtain rfl:=mP d;obtain rfl:=sW e;rfl
structure iT where
 name:List Nat
 kG:Int
 deriving DecidableEq,Inhabited
def iT.cs(a:iT):List T:=[.str a.name,dG a.kG]
def iT.t(a:iT):T:= .agg a.cs
@[simp] theorem iT.ag (a:iT):qZ a.t [.str a.name,dG a.kG] 2:=by
 unfold iT.t iT.cs;exact⟨rfl,rfl,λ_ _=>rfl,rfl,by simp[jS],λ_=>by simp,λ_ _=>by simp,dC,dC⟩
@[simp] theorem iT.fold (a0:List Nat) (a1:Int):T.agg [.str a0,dG a1]=iT.t ⟨a0,a1⟩:=rfl
@[simp] theorem iT.eta (a:iT):iT.mk a.name a.kG=a:=rfl
def iT.inj{a b:iT}(c:a.t=b.t):a=b:=by
 rcases a with⟨_,_⟩;rcases b with⟨_,_⟩;simp only[iT.t,iT.cs,T.agg.injEq,aK]at c;obtain⟨d,e,_⟩:=c;obtain rfl:=mP d;obtain rfl:=io e;rfl
structure iI where
 dZ:Int
 stmt:Int
 uL:Int
 deriving DecidableEq,Inhabited
def iI.cs(a:iI):List T:=[dG a.dZ,dG a.stmt,dG a.uL]
def iI.t(a:iI):T:= .agg a.cs
@[simp] theorem iI.ag (a:iI):qZ a.t [dG a.dZ,dG a.stmt,dG a.uL] 3:=by
 unfold iI.t iI.cs;exact⟨rfl,rfl,λ_ _=>rfl,rfl,by simp[jS],λ_=>by simp,λ_ _=>by simp,dC,dC⟩
@[simp] theorem iI.fold (a0:Int) (a1:Int) (a2:Int):T.agg [dG a0,dG a1,dG a2]=iI.t ⟨a0,a1,a2⟩:=rfl
@[simp] theorem iI.eta (a:iI):iI.mk a.dZ a.stmt a.uL=a:=rfl
def iI.inj{a b:iI}(c:a.t=b.t):a=b:=by
 rcases a with⟨_,_,_⟩;rcases b with⟨_,_,_⟩;simp only[iI.t,iI.cs,T.agg.injEq,aK]at c;obtain⟨d,e,f,_⟩:=c;obtain rfl:=io d;obtain rfl:=io e;obtain rfl:=io f;rfl
structure ee where
 cells:List ig
 ew:List iF
 gW:List iT
 ei:List (List Nat)
 dM:List (List Nat)
 iH:List iI
 deriving DecidableEq,Inhabited
def ee.cs(a:ee):List T:=[sl (a.cells.map ig.t),sl (a.ew.map iF.t),sl (a.gW.map iT.t),sl (a.ei.map T.str),sl (a.dM.map T.str),sl (a.iH.map iI.t)]
def ee.t(a:ee):T:= .agg a.cs
@[simp] theorem ee.ag (a:ee):qZ a.t [sl (a.cells.map ig.t),sl (a.ew.map iF.t),sl (a.gW.map iT.t),sl (a.ei.map T.str),sl (a.dM.map T.str),sl (a.iH.map iI.t)] 6:=by
 unfold ee.t ee.cs;exact⟨rfl,rfl,λ_ _=>rfl,rfl,by simp[jS],λ_=>by simp,λ_ _=>by simp,dC,dC⟩
@[simp] theorem ee.fold (a0:List ig) (a1:List iF) (a2:List iT) (a3:List (List Nat)) (a4:List (List Nat)) (a5:List iI):T.agg [sl (a0.map ig.t),sl (a1.map iF.t),sl (a2.map iT.t),sl (a3.map T.str),sl (a4.map T.str),sl (a5.map iI.t)]=ee.t ⟨a0,a1,a2,a3,a4,a5⟩:=rfl
@[simp] theorem ee.eta (a:ee):ee.mk a.cells a.ew a.gW a.ei a.dM a.iH=a:=rfl
def ee.inj{a b:ee}(c:a.t=b.t):a=b:=by
 rcases a with⟨_,_,_,_,_,_⟩;rcases b with⟨_,_,_,_,_,_⟩;simp only[ee.t,ee.cs,T.agg.injEq,aK]at c;obtain⟨d,e,f,g,h,i,_⟩:=c;obtain rfl:=iA (λ_ _=>ig.inj) _ _ d;obtain rfl:=iA (λ_ _=>iF.inj) _ _ e;obtain rfl:=iA (λ_ _=>iT.inj) _ _ f;obtain rfl:=iA (λ_ _=>mP) _ _ g;obtain rfl:=iA (λ_ _=>mP) _ _ h;obtain rfl:=iA (λ_ _=>iI.inj) _ _ i;rfl
structure eg where
 iW:Int
 eY:List Int
 deriving DecidableEq,Inhabited
def eg.cs(a:eg):List T:=[dG a.iW,sl (a.eY.map (T.int .i64))]
def eg.t(a:eg):T:= .agg a.cs
@[simp] theorem eg.ag (a:eg):qZ a.t [dG a.iW,sl (a.eY.map (T.int .i64))] 2:=by
 unfold eg.t eg.cs;exact⟨rfl,rfl,λ_ _=>rfl,rfl,by simp[jS],λ_=>by simp,λ_ _=>by simp,dC,dC⟩
@[simp] theorem eg.fold (a0:Int) (a1:List Int):T.agg [dG a0,sl (a1.map (T.int .i64))]=eg.t ⟨a0,a1⟩:=rfl
@[simp] theorem eg.eta (a:eg):eg.mk a.iW a.eY=a:=rfl
def eg.inj{a b:eg}(c:a.t=b.t):a=b:=by
 rcases a with⟨_,_⟩;rcases b with⟨_,_⟩;simp only[eg.t,eg.cs,T.agg.injEq,aK]at c;obtain⟨d,e,_⟩:=c;obtain rfl:=io d;obtain rfl:=iA (λ_ _=>io) _ _ e;rfl
structure dP where
 iN:Int
 cond:Int
 atomic:Bool
 deriving DecidableEq,Inhabited
def dP.cs(a:dP):List T:=[dG a.iN,dG a.cond,.bool a.atomic]
def dP.t(a:dP):T:= .agg a.cs
@[simp] theorem dP.ag (a:dP):qZ a.t [dG a.iN,dG a.cond,.bool a.atomic] 3:=by
 unfold dP.t dP.cs;exact⟨rfl,rfl,λ_ _=>rfl,rfl,by simp[jS],λ_=>by simp,λ_ _=>by simp,dC,dC⟩
@[simp] theorem dP.fold (a0:Int) (a1:Int) (a2:Bool):T.agg [dG a0,dG a1,.bool a2]=dP.t ⟨a0,a1,a2⟩:=rfl
@[simp] theorem dP.eta (a:dP):dP.mk a.iN a.cond a.atomic=a:=rfl
def dP.inj{a b:dP}(c:a.t=b.t):a=b:=by
 rcases a with⟨_,_,_⟩;rcases b with⟨_,_,_⟩;simp only[dP.t,dP.cs,T.agg.injEq,aK]at c;obtain⟨d,e,f,_⟩:=c;obtain rfl:=io d;obtain rfl:=io e;obtain rfl:=sW f;rfl
structure fK where
 ew:List eg
 tx:Int
 done:List Bool
 dM:List dP
 deriving DecidableEq,Inhabited
def fK.cs(a:fK):List T:=[sl (a.ew.map eg.t),dG a.tx,sl (a.done.map T.bool),sl (a.dM.map dP.t)]
def fK.t(a:fK):T:= .agg a.cs
@[simp] theorem fK.ag (a:fK):qZ a.t [sl (a.ew.map eg.t),dG a.tx,sl (a.done.map T.bool),sl (a.dM.map dP.t)] 4:=by
 unfold fK.t fK.cs;exact⟨rfl,rfl,λ_ _=>rfl,rfl,by simp[jS],λ_=>by simp,λ_ _=>by simp,dC,dC⟩
@[simp] theorem fK.fold (a0:List eg) (a1:Int) (a2:List Bool) (a3:List dP):T.agg [sl (a0.map eg.t),dG a1,sl (a2.map T.bool),sl (a3.map dP.t)]=fK.t ⟨a0,a1,a2,a3⟩:=rfl
@[simp] theorem fK.eta (a:fK):fK.mk a.ew a.tx a.done a.dM=a:=rfl
def fK.inj{a b:fK}(c:a.t=b.t):a=b:=by
 rcases a with⟨_,_,_,_⟩;rcases b with⟨_,_,_,_⟩;simp only[fK.t,fK.cs,T.agg.injEq,aK]at c;obtain⟨d,e,f,g,_⟩:=c;obtain rfl:=iA (λ_ _=>eg.inj) _ _ d;obtain rfl:=io e;obtain rfl:=iA (λ_ _=>sW) _ _ f;obtain rfl:=iA (λ_ _=>dP.inj) _ _ g;rfl
structure eG where
 fO:fK
 cells:List Int
 ei:List Int
 count:List Int
 deriving DecidableEq,Inhabited
def eG.cs(a:eG):List T:=[sl (a.fO.ew.map eg.t),dG a.fO.tx,sl (a.fO.done.map T.bool),sl (a.fO.dM.map dP.t),sl (a.cells.map (T.int .i64)),sl (a.ei.map (T.int .i64)),sl (a.count.map (T.int .i64))]
def eG.t(a:eG):T:= .agg a.cs
@[simp] theorem eG.ag (a:eG):qZ a.t [sl (a.fO.ew.map eg.t),dG a.fO.tx,sl (a.fO.done.map T.bool),sl (a.fO.dM.map dP.t),sl (a.cells.map (T.int .i64)),sl (a.ei.map (T.int .i64)),sl (a.count.map (T.int .i64))] 7:=by
 unfold eG.t eG.cs;exact⟨rfl,rfl,λ_ _=>rfl,rfl,by simp[jS],λ_=>by simp,λ_ _=>by simp,dC,dC⟩
@[simp] theorem eG.fold (a0:List eg) (a1:Int) (a2:List Bool) (a3:List dP) (a4:List Int) (a5:List Int) (a:List Int):T.agg [sl (a0.map eg.t),dG a1,sl (a2.map T.bool),sl (a3.map dP.t),sl (a4.map (T.int .i64)),sl (a5.map (T.int .i64)),sl (a.map (T.int .i64))]=eG.t ⟨⟨a0,a1,a2,a3⟩,a4,a5,a⟩:=rfl
@[simp] theorem eG.eta (a:eG):eG.mk a.fO a.cells a.ei a.count=a:=rfl
def eG.inj{a b:eG}(c:a.t=b.t):a=b:=by
 rcases a with⟨⟨_,_,_,_⟩,_,_,_⟩;rcases b with⟨⟨_,_,_,_⟩,_,_,_⟩;simp only[eG.t,eG.cs,T.agg.injEq,aK]at c;obtain⟨d,e,f,g,h,i,j,_⟩:=c;obtain rfl:=iA (λ_ _=>eg.inj) _ _ d;obtain rfl:=io e;obtain rfl:=iA (λ_ _=>sW) _ _ f;obtain rfl:=iA (λ_ _=>dP.inj) _ _ g;obtain rfl:=iA (λ_ _=>io) _ _ h;obtain rfl:=iA (λ_ _=>io) _ _ i;obtain rfl:=iA (λ_ _=>io) _ _ j;rfl
structure eK where
 dZ:Int
 kind:Int
 obj:Int
 value:Int
 jg:Int
 mG:List Int
 vh:List Int
 deriving DecidableEq,Inhabited
def eK.cs(a:eK):List T:=[dG a.dZ,dG a.kind,dG a.obj,dG a.value,dG a.jg,sl (a.mG.map (T.int .i64)),sl (a.vh.map (T.int .i64))]
def eK.t(a:eK):T:= .agg a.cs
@[simp] theorem eK.ag (a:eK):qZ a.t [dG a.dZ,dG a.kind,dG a.obj,dG a.value,dG a.jg,sl (a.mG.map (T.int .i64)),sl (a.vh.map (T.int .i64))] 7:=by
 unfold eK.t eK.cs;exact⟨rfl,rfl,λ_ _=>rfl,rfl,by simp[jS],λ_=>by simp,λ_ _=>by simp,dC,dC⟩
@[simp] theorem eK.fold (a0:Int) (a1:Int) (a2:Int) (a3:Int) (a4:Int) (a5:List Int) (a:List Int):T.agg [dG a0,dG a1,dG a2,dG a3,dG a4,sl (a5.map (T.int .i64)),sl (a.map (T.int .i64))]=eK.t ⟨a0,a1,a2,a3,a4,a5,a⟩:=rfl
@[simp] theorem eK.eta (a:eK):eK.mk a.dZ a.kind a.obj a.value a.jg a.mG a.vh=a:=rfl
def eK.inj{a b:eK}(c:a.t=b.t):a=b:=by
 rcases a with⟨_,_,_,_,_,_,_⟩;rcases b with⟨_,_,_,_,_,_,_⟩;simp only[eK.t,eK.cs,T.agg.injEq,aK]at c;obtain⟨d,e,f,g,h,i,j,_⟩:=c;obtain rfl:=io d;obtain rfl:=io e;obtain rfl:=io f;obtain rfl:=io g;obtain rfl:=io h;obtain rfl:=iA (λ_ _=>io) _ _ i;obtain rfl:=iA (λ_ _=>io) _ _ j;rfl
structure fF where
 fq:ee
 start:Int
 j7:eG
 dS:List eK
 deriving DecidableEq,Inhabited
def fF.cs(a:fF):List T:=[sl (a.fq.cells.map ig.t),sl (a.fq.ew.map iF.t),sl (a.fq.gW.map iT.t),sl (a.fq.ei.map T.str),sl (a.fq.dM.map T.str),sl (a.fq.iH.map iI.t),dG a.start,sl (a.j7.fO.ew.map eg.t),dG a.j7.fO.tx,sl (a.j7.fO.done.map T.bool),sl (a.j7.fO.dM.map dP.t),sl (a.j7.cells.map (T.int .i64)),sl (a.j7.ei.map (T.int .i64)),sl (a.j7.count.map (T.int .i64)),sl (a.dS.map eK.t)]
def fF.t(a:fF):T:= .agg a.cs
@[simp] theorem fF.ag (a:fF):qZ a.t [sl (a.fq.cells.map ig.t),sl (a.fq.ew.map iF.t),sl (a.fq.gW.map iT.t),sl (a.fq.ei.map T.str),sl (a.fq.dM.map T.str),sl (a.fq.iH.map iI.t),dG a.start,sl (a.j7.fO.ew.map eg.t),dG a.j7.fO.tx,sl (a.j7.fO.done.map T.bool),sl (a.j7.fO.dM.map dP.t),sl (a.j7.cells.map (T.int .i64)),sl (a.j7.ei.map (T.int .i64)),sl (a.j7.count.map (T.int .i64)),sl (a.dS.map eK.t)] 15:=by
 unfold fF.t fF.cs;exact⟨rfl,rfl,λ_ _=>rfl,rfl,by simp[jS],λ_=>by simp,λ_ _=>by simp,dC,dC⟩
@[simp] theorem fF.fold (a0:List ig) (a1:List iF) (a2:List iT) (a3:List (List Nat)) (a4:List (List Nat)) (a5:List iI) (f:Int) (g:List eg) (h:Int) (i:List Bool) (a:List dP) (b:List Int) (c:List Int) (d:List Int) (e:List eK):T.agg [sl (a0.map ig.t),sl (a1.map iF.t),sl (a2.map iT.t),sl (a3.map T.str),sl (a4.map T.str),sl (a5.map iI.t),dG f,sl (g.map eg.t),dG h,sl (i.map T.bool),sl (a.map dP.t),sl (b.map (T.int .i64)),sl (c.map (T.int .i64)),sl (d.map (T.int .i64)),sl (e.map eK.t)]=fF.t ⟨⟨a0,a1,a2,a3,a4,a5⟩,f,⟨⟨g,h,i,a⟩,b,c,d⟩,e⟩:=rfl
@[simp] theorem fF.eta (a:fF):fF.mk a.fq a.start a.j7 a.dS=a:=rfl
def fF.inj{a b:fF}(c:a.t=b.t):a=b:=by
 rcases a with⟨⟨_,_,_,_,_,_⟩,_,⟨⟨_,_,_,_⟩,_,_,_⟩,_⟩;rcases b with⟨⟨_,_,_,_,_,_⟩,_,⟨⟨_,_,_,_⟩,_,_,_⟩,_⟩;simp only[fF.t,fF.cs,T.agg.injEq,aK]at c;obtain⟨d,e,k,l,m,n,o,p,q,r,f,g,h,i,j,_⟩:=c;obtain rfl:=iA (λ_ _=>ig.inj) _ _ d;obtain rfl:=iA (λ_ _=>iF.inj) _ _ e;obtain rfl:=iA (λ_ _=>iT.inj) _ _ k;obtain rfl:=iA (λ_ _=>mP) _ _ l;obtain rfl:=iA (λ_ _=>mP) _ _ m;obtain rfl:=iA (λ_ _=>iI.inj) _ _ n;obtain rfl:=io o;obtain rfl:=iA (λ_ _=>eg.inj) _ _ p;obtain rfl:=io q;obtain rfl:=iA (λ_ _=>sW) _ _ r;obtain rfl:=iA (λ_ _=>dP.inj) _ _ f;obtain rfl:=iA (λ_ _=>io) _ _ g;obtain rfl:=iA (λ_ _=>io) _ _ h;obtain rfl:=iA (λ_ _=>io) _ _ i;obtain rfl:=iA (λ_ _=>eK.inj) _ _ j;rfl
structure ik where
 kind:Int
 a:Int
 b:Int
 c:Int
 d:Int
 jD:List Int
 deriving DecidableEq,Inhabited
def ik.cs(e:ik):List T:=[dG e.kind,dG e.a,dG e.b,dG e.c,dG e.d,sl (e.jD.map (T.int .i64))]
def ik.t(a:ik):T:= .agg a.cs
@[simp] theorem ik.ag (e:ik):qZ e.t [dG e.kind,dG e.a,dG e.b,dG e.c,dG e.d,sl (e.jD.map (T.int .i64))] 6:=by
 unfold ik.t ik.cs;exact⟨rfl,rfl,λ_ _=>rfl,rfl,by simp[jS],λ_=>by simp,λ_ _=>by simp,dC,dC⟩
@[simp] theorem ik.fold (a0:Int) (a1:Int) (a2:Int) (a3:Int) (a4:Int) (a5:List Int):T.agg [dG a0,dG a1,dG a2,dG a3,dG a4,sl (a5.map (T.int .i64))]=ik.t ⟨a0,a1,a2,a3,a4,a5⟩:=rfl
@[simp] theorem ik.eta (e:ik):ik.mk e.kind e.a e.b e.c e.d e.jD=e:=rfl
def ik.inj{a b:ik}(c:a.t=b.t):a=b:=by
 rcases a with⟨_,_,_,_,_,_⟩;rcases b with⟨_,_,_,_,_,_⟩;simp only[ik.t,ik.cs,T.agg.injEq,aK]at c;obtain⟨d,e,f,g,h,i,_⟩:=c;obtain rfl:=io d;obtain rfl:=io e;obtain rfl:=io f;obtain rfl:=io g;obtain rfl:=io h;obtain rfl:=iA (λ_ _=>io) _ _ i;rfl
structure kh where
 fq:ee
 dS:List eK
 deriving DecidableEq,Inhabited
def kh.cs(a:kh):List T:=[sl (a.fq.cells.map ig.t),sl (a.fq.ew.map iF.t),sl (a.fq.gW.map iT.t),sl (a.fq.ei.map T.str),sl (a.fq.dM.map T.str),sl (a.fq.iH.map iI.t),sl (a.dS.map eK.t)]
def kh.t(a:kh):T:= .agg a.cs
@[simp] theorem kh.ag (a:kh):qZ a.t [sl (a.fq.cells.map ig.t),sl (a.fq.ew.map iF.t),sl (a.fq.gW.map iT.t),sl (a.fq.ei.map T.str),sl (a.fq.dM.map T.str),sl (a.fq.iH.map iI.t),sl (a.dS.map eK.t)] 7:=by
 unfold kh.t kh.cs;exact⟨rfl,rfl,λ_ _=>rfl,rfl,by simp[jS],λ_=>by simp,λ_ _=>by simp,dC,dC⟩
@[simp] theorem kh.fold (a0:List ig) (a1:List iF) (a2:List iT) (a3:List (List Nat)) (a4:List (List Nat)) (a5:List iI) (a:List eK):T.agg [sl (a0.map ig.t),sl (a1.map iF.t),sl (a2.map iT.t),sl (a3.map T.str),sl (a4.map T.str),sl (a5.map iI.t),sl (a.map eK.t)]=kh.t ⟨⟨a0,a1,a2,a3,a4,a5⟩,a⟩:=rfl
@[simp] theorem kh.eta (a:kh):kh.mk a.fq a.dS=a:=rfl
def kh.inj{a b:kh}(c:a.t=b.t):a=b:=by
 rcases a with⟨⟨_,_,_,_,_,_⟩,_⟩;rcases b with⟨⟨_,_,_,_,_,_⟩,_⟩;simp only[kh.t,kh.cs,T.agg.injEq,aK]at c;obtain⟨d,e,f,g,h,i,j,_⟩:=c;obtain rfl:=iA (λ_ _=>ig.inj) _ _ d;obtain rfl:=iA (λ_ _=>iF.inj) _ _ e;obtain rfl:=iA (λ_ _=>iT.inj) _ _ f;obtain rfl:=iA (λ_ _=>mP) _ _ g;obtain rfl:=iA (λ_ _=>mP) _ _ h;obtain rfl:=iA (λ_ _=>iI.inj) _ _ i;obtain rfl:=iA (λ_ _=>eK.inj) _ _ j;rfl
structure fJ where
 w:fF
 BK:List fK
 deriving DecidableEq,Inhabited
def fJ.cs(a:fJ):List T:=[sl (a.w.fq.cells.map ig.t),sl (a.w.fq.ew.map iF.t),sl (a.w.fq.gW.map iT.t),sl (a.w.fq.ei.map T.str),sl (a.w.fq.dM.map T.str),sl (a.w.fq.iH.map iI.t),dG a.w.start,sl (a.w.j7.fO.ew.map eg.t),dG a.w.j7.fO.tx,sl (a.w.j7.fO.done.map T.bool),sl (a.w.j7.fO.dM.map dP.t),sl (a.w.j7.cells.map (T.int .i64)),sl (a.w.j7.ei.map (T.int .i64)),sl (a.w.j7.count.map (T.int .i64)),sl (a.w.dS.map eK.t),sl (a.BK.map fK.t)]
def fJ.t(a:fJ):T:= .agg a.cs
@[simp] theorem fJ.ag (a:fJ):qZ a.t [sl (a.w.fq.cells.map ig.t),sl (a.w.fq.ew.map iF.t),sl (a.w.fq.gW.map iT.t),sl (a.w.fq.ei.map T.str),sl (a.w.fq.dM.map T.str),sl (a.w.fq.iH.map iI.t),dG a.w.start,sl (a.w.j7.fO.ew.map eg.t),dG a.w.j7.fO.tx,sl (a.w.j7.fO.done.map T.bool),sl (a.w.j7.fO.dM.map dP.t),sl (a.w.j7.cells.map (T.int .i64)),sl (a.w.j7.ei.map (T.int .i64)),sl (a.w.j7.count.map (T.int .i64)),sl (a.w.dS.map eK.t),sl (a.BK.map fK.t)] 16:=by
 unfold fJ.t fJ.cs;exact⟨rfl,rfl,λ_ _=>rfl,rfl,by simp[jS],λ_=>by simp,λ_ _=>by simp,dC,dC⟩
@[simp] theorem fJ.fold (a0:List ig) (a1:List iF) (a2:List iT) (a3:List (List Nat)) (a4:List (List Nat)) (a5:List iI) (g:Int) (h:List eg) (i:Int) (j:List Bool) (a:List dP) (b:List Int) (c:List Int) (d:List Int) (e:List eK) (f:List fK):T.agg [sl (a0.map ig.t),sl (a1.map iF.t),sl (a2.map iT.t),sl (a3.map T.str),sl (a4.map T.str),sl (a5.map iI.t),dG g,sl (h.map eg.t),dG i,sl (j.map T.bool),sl (a.map dP.t),sl (b.map (T.int .i64)),sl (c.map (T.int .i64)),sl (d.map (T.int .i64)),sl (e.map eK.t),sl (f.map fK.t)]=fJ.t ⟨⟨⟨a0,a1,a2,a3,a4,a5⟩,g,⟨⟨h,i,j,a⟩,b,c,d⟩,e⟩,f⟩:=rfl
@[simp] theorem fJ.eta (a:fJ):fJ.mk a.w a.BK=a:=rfl
def fJ.inj{a b:fJ}(c:a.t=b.t):a=b:=by
 rcases a with⟨⟨⟨_,_,_,_,_,_⟩,_,⟨⟨_,_,_,_⟩,_,_,_⟩,_⟩,_⟩;rcases b with⟨⟨⟨_,_,_,_,_,_⟩,_,⟨⟨_,_,_,_⟩,_,_,_⟩,_⟩,_⟩;simp only[fJ.t,fJ.cs,T.agg.injEq,aK]at c;obtain⟨d,e,l,m,n,o,p,q,r,s,f,g,h,i,j,k,_⟩:=c;obtain rfl:=iA (λ_ _=>ig.inj) _ _ d;obtain rfl:=iA (λ_ _=>iF.inj) _ _ e;obtain rfl:=iA (λ_ _=>iT.inj) _ _ l;obtain rfl:=iA (λ_ _=>mP) _ _ m;obtain rfl:=iA (λ_ _=>mP) _ _ n;obtain rfl:=iA (λ_ _=>iI.inj) _ _ o;obtain rfl:=io p;obtain rfl:=iA (λ_ _=>eg.inj) _ _ q;obtain rfl:=io r;obtain rfl:=iA (λ_ _=>sW) _ _ s;obtain rfl:=iA (λ_ _=>dP.inj) _ _ f;obtain rfl:=iA (λ_ _=>io) _ _ g;obtain rfl:=iA (λ_ _=>io) _ _ h;obtain rfl:=iA (λ_ _=>io) _ _ i;obtain rfl:=iA (λ_ _=>eK.inj) _ _ j;obtain rfl:=iA (λ_ _=>fK.inj) _ _ k;rfl
structure fU where
 op:Int
 a:Int
 b:Int
 c:Int
 n:Int
 jg:Int
 deriving DecidableEq,Inhabited
def fU.cs(d:fU):List T:=[dG d.op,dG d.a,dG d.b,dG d.c,dG d.n,dG d.jg]
def fU.t(a:fU):T:= .agg a.cs
@[simp] theorem fU.ag (d:fU):qZ d.t [dG d.op,dG d.a,dG d.b,dG d.c,dG d.n,dG d.jg] 6:=by
 unfold fU.t fU.cs;exact⟨rfl,rfl,λ_ _=>rfl,rfl,by simp[jS],λ_=>by simp,λ_ _=>by simp,dC,dC⟩
@[simp] theorem fU.fold (a0:Int) (a1:Int) (a2:Int) (a3:Int) (a4:Int) (a5:Int):T.agg [dG a0,dG a1,dG a2,dG a3,dG a4,dG a5]=fU.t ⟨a0,a1,a2,a3,a4,a5⟩:=rfl
@[simp] theorem fU.eta (d:fU):fU.mk d.op d.a d.b d.c d.n d.jg=d:=rfl
def fU.inj{a b:fU}(c:a.t=b.t):a=b:=by
 rcases a with⟨_,_,_,_,_,_⟩;rcases b with⟨_,_,_,_,_,_⟩;simp only[fU.t,fU.cs,T.agg.injEq,aK]at c;obtain⟨d,e,f,g,h,i,_⟩:=c;obtain rfl:=io d;obtain rfl:=io e;obtain rfl:=io f;obtain rfl:=io g;obtain rfl:=io h;obtain rfl:=io i;rfl
structure fZ where
 iS:Int
 jk:List fU
 deriving DecidableEq,Inhabited
def fZ.cs(a:fZ):List T:=[dG a.iS,sl (a.jk.map fU.t)]
def fZ.t(a:fZ):T:= .agg a.cs
@[simp] theorem fZ.ag (a:fZ):qZ a.t [dG a.iS,sl (a.jk.map fU.t)] 2:=by
 unfold fZ.t fZ.cs;exact⟨rfl,rfl,λ_ _=>rfl,rfl,by simp[jS],λ_=>by simp,λ_ _=>by simp,dC,dC⟩
@[simp] theorem fZ.fold (a0:Int) (a1:List fU):T.agg [dG a0,sl (a1.map fU.t)]=fZ.t ⟨a0,a1⟩:=rfl
@[simp] theorem fZ.eta (a:fZ):fZ.mk a.iS a.jk=a:=rfl
def fZ.inj{a b:fZ}(c:a.t=b.t):a=b:=by
 rcases a with⟨_,_⟩;rcases b with⟨_,_⟩;simp only[fZ.t,fZ.cs,T.agg.injEq,aK]at c;obtain⟨d,e,_⟩:=c;obtain rfl:=io d;obtain rfl:=iA (λ_ _=>fU.inj) _ _ e;rfl
structure jO where
 fq:ee
 dM:List fZ
 deriving DecidableEq,Inhabited
def jO.cs(a:jO):List T:=[sl (a.fq.cells.map ig.t),sl (a.fq.ew.map iF.t),sl (a.fq.gW.map iT.t),sl (a.fq.ei.map T.str),sl (a.fq.dM.map T.str),sl (a.fq.iH.map iI.t),sl (a.dM.map fZ.t)]
def jO.t(a:jO):T:= .agg a.cs
@[simp] theorem jO.ag (a:jO):qZ a.t [sl (a.fq.cells.map ig.t),sl (a.fq.ew.map iF.t),sl (a.fq.gW.map iT.t),sl (a.fq.ei.map T.str),sl (a.fq.dM.map T.str),sl (a.fq.iH.map iI.t),sl (a.dM.map fZ.t)] 7:=by
 unfold jO.t jO.cs;exact⟨rfl,rfl,λ_ _=>rfl,rfl,by simp[jS],λ_=>by simp,λ_ _=>by simp,dC,dC⟩
@[simp] theorem jO.fold (a0:List ig) (a1:List iF) (a2:List iT) (a3:List (List Nat)) (a4:List (List Nat)) (a5:List iI) (a:List fZ):T.agg [sl (a0.map ig.t),sl (a1.map iF.t),sl (a2.map iT.t),sl (a3.map T.str),sl (a4.map T.str),sl (a5.map iI.t),sl (a.map fZ.t)]=jO.t ⟨⟨a0,a1,a2,a3,a4,a5⟩,a⟩:=rfl
@[simp] theorem jO.eta (a:jO):jO.mk a.fq a.dM=a:=rfl
def jO.inj{a b:jO}(c:a.t=b.t):a=b:=by
 rcases a with⟨⟨_,_,_,_,_,_⟩,_⟩;rcases b with⟨⟨_,_,_,_,_,_⟩,_⟩;simp only[jO.t,jO.cs,T.agg.injEq,aK]at c;obtain⟨d,e,f,g,h,i,j,_⟩:=c;obtain rfl:=iA (λ_ _=>ig.inj) _ _ d;obtain rfl:=iA (λ_ _=>iF.inj) _ _ e;obtain rfl:=iA (λ_ _=>iT.inj) _ _ f;obtain rfl:=iA (λ_ _=>mP) _ _ g;obtain rfl:=iA (λ_ _=>mP) _ _ h;obtain rfl:=iA (λ_ _=>iI.inj) _ _ i;obtain rfl:=iA (λ_ _=>fZ.inj) _ _ j;rfl
structure ez where
 pC:Int
 iS:List Int
 kc:List (List Int)
 dS:Int
 deriving DecidableEq,Inhabited
def ez.cs(a:ez):List T:=[dG a.pC,sl (a.iS.map (T.int .i64)),sl (a.kc.map (λb=>sl (b.map (T.int .i64)))),dG a.dS]
def ez.t(a:ez):T:= .agg a.cs
@[simp] theorem ez.ag (a:ez):qZ a.t [dG a.pC,sl (a.iS.map (T.int .i64)),sl (a.kc.map (λb=>sl (b.map (T.int .i64)))),dG a.dS] 4:=by
 unfold ez.t ez.cs;exact⟨rfl,rfl,λ_ _=>rfl,rfl,by simp[jS],λ_=>by simp,λ_ _=>by simp,dC,dC⟩
@[simp] theorem ez.fold (a0:Int) (a1:List Int) (a2:List (List Int)) (a3:Int):T.agg [dG a0,sl (a1.map (T.int .i64)),sl (a2.map (λa=>sl (a.map (T.int .i64)))),dG a3]=ez.t ⟨a0,a1,a2,a3⟩:=rfl
@[simp] theorem ez.eta (a:ez):ez.mk a.pC a.iS a.kc a.dS=a:=rfl
def ez.inj{a b:ez}(c:a.t=b.t):a=b:=by
 rcases a with⟨_,_,_,_⟩;rcases b with⟨_,_,_,_⟩;simp only[ez.t,ez.cs,T.agg.injEq,aK]at c;obtain⟨d,e,f,g,_⟩:=c;obtain rfl:=io d;obtain rfl:=iA (λ_ _=>io) _ _ e;obtain rfl:=iA (iA (λ_ _=>io)) _ _ f;obtain rfl:=io g;rfl
structure iL where
 fO:fK
 cells:List Int
 ei:List Int
 dM:List ez
 deriving DecidableEq,Inhabited
def iL.cs(a:iL):List T:=[sl (a.fO.ew.map eg.t),dG a.fO.tx,sl (a.fO.done.map T.bool),sl (a.fO.dM.map dP.t),sl (a.cells.map (T.int .i64)),sl (a.ei.map (T.int .i64)),sl (a.dM.map ez.t)]
def iL.t(a:iL):T:= .agg a.cs
@[simp] theorem iL.ag (a:iL):qZ a.t [sl (a.fO.ew.map eg.t),dG a.fO.tx,sl (a.fO.done.map T.bool),sl (a.fO.dM.map dP.t),sl (a.cells.map (T.int .i64)),sl (a.ei.map (T.int .i64)),sl (a.dM.map ez.t)] 7:=by
 unfold iL.t iL.cs;exact⟨rfl,rfl,λ_ _=>rfl,rfl,by simp[jS],λ_=>by simp,λ_ _=>by simp,dC,dC⟩
@[simp] theorem iL.fold (a0:List eg) (a1:Int) (a2:List Bool) (a3:List dP) (a4:List Int) (a5:List Int) (a:List ez):T.agg [sl (a0.map eg.t),dG a1,sl (a2.map T.bool),sl (a3.map dP.t),sl (a4.map (T.int .i64)),sl (a5.map (T.int .i64)),sl (a.map ez.t)]=iL.t ⟨⟨a0,a1,a2,a3⟩,a4,a5,a⟩:=rfl
@[simp] theorem iL.eta (a:iL):iL.mk a.fO a.cells a.ei a.dM=a:=rfl
def iL.inj{a b:iL}(c:a.t=b.t):a=b:=by
 rcases a with⟨⟨_,_,_,_⟩,_,_,_⟩;rcases b with⟨⟨_,_,_,_⟩,_,_,_⟩;simp only[iL.t,iL.cs,T.agg.injEq,aK]at c;obtain⟨d,e,f,g,h,i,j,_⟩:=c;obtain rfl:=iA (λ_ _=>eg.inj) _ _ d;obtain rfl:=io e;obtain rfl:=iA (λ_ _=>sW) _ _ f;obtain rfl:=iA (λ_ _=>dP.inj) _ _ g;obtain rfl:=iA (λ_ _=>io) _ _ h;obtain rfl:=iA (λ_ _=>io) _ _ i;obtain rfl:=iA (λ_ _=>ez.inj) _ _ j;rfl
structure jf where
 dZ:Int
 E4:Int
 deriving DecidableEq,Inhabited
def jf.cs(a:jf):List T:=[dG a.dZ,dG a.E4]
def jf.t(a:jf):T:= .agg a.cs
@[simp] theorem jf.ag (a:jf):qZ a.t [dG a.dZ,dG a.E4] 2:=by
 unfold jf.t jf.cs;exact⟨rfl,rfl,λ_ _=>rfl,rfl,by simp[jS],λ_=>by simp,λ_ _=>by simp,dC,dC⟩
@[simp] theorem jf.fold (a0:Int) (a1:Int):T.agg [dG a0,dG a1]=jf.t ⟨a0,a1⟩:=rfl
@[simp] theorem jf.eta (a:jf):jf.mk a.dZ a.E4=a:=rfl
def jf.inj{a b:jf}(c:a.t=b.t):a=b:=by
 rcases a with⟨_,_⟩;rcases b with⟨_,_⟩;simp only[jf.t,jf.cs,T.agg.injEq,aK]at c;obtain⟨d,e,_⟩:=c;obtain rfl:=io d;obtain rfl:=io e;rfl
structure iw where
 kind:Int
 uL:Int
 name:List Nat
 size:Int
 j7:Int
 on:List Nat
 deriving DecidableEq,Inhabited
def iw.cs(a:iw):List T:=[dG a.kind,dG a.uL,.str a.name,dG a.size,dG a.j7,.str a.on]
def iw.t(a:iw):T:= .agg a.cs
@[simp] theorem iw.ag (a:iw):qZ a.t [dG a.kind,dG a.uL,.str a.name,dG a.size,dG a.j7,.str a.on] 6:=by
 unfold iw.t iw.cs;exact⟨rfl,rfl,λ_ _=>rfl,rfl,by simp[jS],λ_=>by simp,λ_ _=>by simp,dC,dC⟩
@[simp] theorem iw.fold (a0:Int) (a1:Int) (a2:List Nat) (a3:Int) (a4:Int) (a5:List Nat):T.agg [dG a0,dG a1,.str a2,dG a3,dG a4,.str a5]=iw.t ⟨a0,a1,a2,a3,a4,a5⟩:=rfl
@[simp] theorem iw.eta (a:iw):iw.mk a.kind a.uL a.name a.size a.j7 a.on=a:=rfl
def iw.inj{a b:iw}(c:a.t=b.t):a=b:=by
 rcases a with⟨_,_,_,_,_,_⟩;rcases b with⟨_,_,_,_,_,_⟩;simp only[iw.t,iw.cs,T.agg.injEq,aK]at c;obtain⟨d,e,f,g,h,i,_⟩:=c;obtain rfl:=io d;obtain rfl:=io e;obtain rfl:=mP f;obtain rfl:=io g;obtain rfl:=io h;obtain rfl:=mP i;rfl
def jt(a:Int)(b:Nat):Bool:=decide (0<=a/\a<b)
def xr{b:Type}(c:List b)(a:Int):aa b:=if 0<=a then c[a.toNat]? else none
def fw{a:Int}{b:Nat}:jt a b=true↔0<=a/\a.toNat<b:=by unfold jt;simp;omega
def EN{a:Int}{c:Nat}(b:jt a c=false):¬(0<=a/\a.toNat<c):=λd=>by rw[fw.2 d]at b;simp at b
def iK{g:Type}{b:List g}{a:Int}(e:jt a b.length=true):∃d,b[a.toNat]? =some d/\xr b a=some d:=by
 obtain⟨f,c⟩:=fw.1 e;exact⟨b[a.toNat],by simp[c],by simp[xr,f,c]⟩
def qX{d:Type}{b:List d}{a:Int}(c:jt a b.length=false):xr b a=none:=by
 have:=EN c;unfold xr;split
 ·simp;omega
 ·rfl
def mK(a:ee)(b:fK):Bool:=(a.gW.all λc=>jt c.kG a.ew.length)&&decide (b.ew.length=a.ew.length)&&decide (b.done.length=a.ei.length)&&decide (b.dM.length=a.dM.length)
def j1(c:ee)(a b:Int):Bool:=
 if a=1\/a=2\/a=5\/a=12\/a=13\/a=14\/a=15 then decide (b=-1)
 else if a=3\/a=4 then jt b c.cells.length
 else if a=6\/a=7 then(match xr c.ew b with|some d=> !d.rW|none=>false)
 else if a=8\/a=9\/a=10\/a=11 then(match xr c.ew b with|some d=>d.rW|none=>false)
 else if a=16\/a=17\/a=18\/a=19 then jt b c.gW.length
 else if a=20\/a=21 then jt b c.dM.length
 else if a=22\/a=23 then jt b c.ei.length
 else false
def iz(a:Int):List dP->Nat->List Int
 | [],_=>[]
 |t::c,b=>if t.iN=3/\t.cond=a then(b:Int)::iz a c (b+1)else iz a c (b+1)
def mE(b:fK)(a:Int):eg:=(xr b.ew a).getD default
def pS(b:fK)(a:Int):dP:=(xr b.dM a).getD default
def r6(c:ee)(b:fK)(a:Int):eg:=mE b ((xr c.gW a).getD default).kG
def CU(b:fK)(a:Int):Bool:=(xr b.done a).getD false
def Bq(e:ee)(a:fK)(d b c:Int):Bool:=
 if b=1 then decide ((pS a d).iN=1)
 else if b=17 then decide ((pS a d).iN=4)&&decide ((pS a d).cond=c)&&decide ((r6 e a c).iW=-1)
 else if¬(pS a d).iN=2 then false
 else if b=6 then decide ((mE a c).iW=-1)
 else if b=10 then decide ((mE a c).iW=-1)&&decide ((mE a c).eY=[])
 else if b=8 then decide ((mE a c).iW=-1)&& !decide (d∈(mE a c).eY)
 else if b=7\/b=11 then decide ((mE a c).iW=d)
 else if b=9 then decide (d∈(mE a c).eY)
 else if b=12 then decide (a.tx=-1)
 else if b=13 then decide (a.tx=d)
 else if b=14 then !(pS a d).atomic
 else if b=15 then(pS a d).atomic
 else if b=16\/b=18\/b=19 then decide ((r6 e a c).iW=d)
 else if b=20 then !decide (c=d)&&decide ((pS a c).iN=0)
 else if b=21 then !decide (c=d)&&decide ((pS a c).iN=5)
 else if b=22 then !CU a c
 else if b=23 then CU a c
 else true
def jR(a:ee)(d:fK)(e b c:Int):Bool:=mK a d&&jt e a.dM.length&&j1 a b c&&Bq a d e b c
def ou{c:ee}{b:fK}(a:mK c b=true):b.ew.length=c.ew.length/\b.done.length=c.ei.length/\b.dM.length=c.dM.length:=by
 unfold mK at a;simp at a;exact⟨a.1.1.2,a.1.2,a.2⟩
def rY{c:ee}{f:fK}(b:mK c f=true){e:Nat}{a:iT}(d:c.gW[e]? =some a):jt a.kG c.ew.length=true:=by
 unfold mK at b;simp at b;exact b.1.1.1 a (ax d)
def uc{d:ee}{a c:Int}(b:j1 d a c=true):a=1\/a=2\/a=3\/a=4\/a=5\/a=12\/a=13\/a=14\/a=15\/(a=6\/a=7\/a=8\/a=9\/a=10\/a=11)\/(a=16\/a=17\/a=18\/a=19)\/(a=20\/a=21)\/(a=22\/a=23):=by
 by_cases e:1<=a/\a<=23
 ·omega
 ·exfalso;unfold j1 at b;rw[ao dB,ao dB,ao dB,ao dB,ao dB,ao dB,ao dB]at b;simp at b
def mV{d:ee}{a c:Int}(b:j1 d a c=true)(e:a=6\/a=7\/a=8\/a=9\/a=10\/a=11):jt c d.ew.length=true:=by
 cases hl:jt c d.ew.length with
 |true=>rfl
 |false=>
  unfold j1 at b;rw[ao dB,ao dB]at b;rcases e with rfl|rfl|rfl|rfl|rfl|rfl<;>simp[qX hl]at b
def py{d:ee}{a c:Int}(b:j1 d a c=true)(e:a=16\/a=17\/a=18\/a=19):jt c d.gW.length=true:=by
 unfold j1 at b;rwa[ao dB,ao dB,ao dB,ao dB,aq e]at b
def wE{d:ee}{a c:Int}(b:j1 d a c=true)(e:a=20\/a=21):jt c d.dM.length=true:=by
 unfold j1 at b;rwa[ao dB,ao dB,ao dB,ao dB,ao dB,aq e]at b
def rj{d:ee}{a c:Int}(b:j1 d a c=true)(e:a=22\/a=23):jt c d.ei.length=true:=by
 unfold j1 at b;rwa[ao dB,ao dB,ao dB,ao dB,ao dB,ao dB,aq e]at b
def fK.sm(a:fK):Prop:=a.ew.length<=1099511627776/\a.done.length<=1099511627776/\a.dM.length<=1099511627776/\∀b∈a.ew,b.eY.length<=1000000000000
def fK.oZ(a:fK)(i:Int)(b:dP->dP):fK:={a with dM:=a.dM.modify i.toNat b}
def fK.qt(a:fK)(c:Int)(b:eg->eg):fK:={a with ew:=a.ew.modify c.toNat b}
def kx(a:Int)(b:dP):dP:={b with iN:=a}
def lY:List Int->Int->List Int
 | [],a=>[a]
 |x::b,a=>if x<a then x::lY b a else if x=a then x::b else a::x::b
def yg(a c:Int)(b:List dP):Int:=if c∈iz a b 0 then c else(iz a b 0).headD (-1)
def fg(g:ee)(a:fK)(f b c h:Int):fK×Int:=
 if b=1 then(a.oZ f (kx 2),0)
 else if b=2 then(a.oZ f (kx 5),0)
 else if b=6\/b=10 then(a.qt c λd=>{d with iW:=f},0)
 else if b=7\/b=11 then(a.qt c λd=>{d with iW:=-1},0)
 else if b=8 then(a.qt c λd=>{d with eY:=lY d.eY f},0)
 else if b=9 then(a.qt c λd=>{d with eY:=d.eY.filter λi=> !decide (i=f)},0)
 else if b=12 then({a with tx:=f},0)
 else if b=13 then({a with tx:=-1},0)
 else if b=14 then(a.oZ f λe=>{e with atomic:=true},0)
 else if b=15 then(a.oZ f λe=>{e with atomic:=false},0)
 else if b=16 then((a.qt ((xr g.gW c).getD default).kG λd=>{d with iW:=-1}).oZ f λe=>{e with iN:=3,cond:=c},0)
 else if b=17 then((a.qt ((xr g.gW c).getD default).kG λd=>{d with iW:=f}).oZ f λe=>{e with iN:=2,cond:=0},0)
 else if b=18 then(if iz c a.dM 0=[]then(a,-1)else(a.oZ (yg c h a.dM) (kx 4),yg c h a.dM))
 else if b=19 then({a with dM:=a.dM.map λe=>if e.iN=3/\e.cond=c then kx 4 e else e},(iz c a.dM 0).length)
 else if b=20 then(a.oZ c (kx 1),0)
 else if b=22 then({a with done:=a.done.set c.toNat true},0)
 else(a,0)
def IE(a:List Int):Prop:=a.Pairwise (· < ·)
def fK.EY(b:fK):Prop:=∀a∈b.ew,IE a.eY
def Cu{a:List Int}{c b:Int}(h:b∈lY a c):b∈a\/b=c:=by
 induction a with
 |nil=>simp[lY]at h;exact .inr h
 |cons e a d=>
  unfold lY at h;split at h
  ·rcases List.mem_cons.1 h with rfl|h
   ·exact .inl dC
   ·rcases d h with h|h
    ·exact .inl (by simp[h])
    ·exact .inr h
  ·split at h
   ·exact .inl h
   ·rcases List.mem_cons.1 h with rfl|h
    ·exact .inr rfl
    ·exact .inl h
def Cv{b:List Int}(a:IE b)(e:Int):IE (lY b e):=by
 induction b with
 |nil=>simp[lY,IE]
 |cons f b d=>
  unfold IE at*
  rw[dw]at a;unfold lY;split
  ·rw[dw];refine⟨λc hx=> ?_,d a.2⟩;rcases Cu hx with hx|rfl
   ·exact a.1 c hx
   ·assumption
  ·split
   ·rw[dw];exact a
   ·rw[dw,dw];refine⟨λc hx=> ?_,a⟩;rcases List.mem_cons.1 hx with rfl|hx
    ·omega
    ·have:=a.1 c hx;omega
def HS(a:List Int)(b:Int):(lY a b).length<=a.length+1:=by
 induction a with
 |nil=>simp[lY]
 |cons d a c=>unfold lY;split<;>(try split)<;>simp<;>omega
def mem_modify{c:Type}{b:List c}{i:Nat}{g:c->c}{e:c}(h:e∈b.modify i g):e∈b\/∃f∈b,e=g f:=by
 obtain⟨j,a⟩:=List.mem_iff_getElem?.1 h;rw[List.getElem?_modify]at a;split at a
 ·cases d:b[j]? with
  |none=>rw[d]at a;simp at a
  |some f=>rw[d]at a;simp at a;exact .inr ⟨f,ax d,a.symm⟩
 ·exact .inl (ax (by simpa using a))
def Sk{b:fK}(d:b.EY){h:Int}{c:eg->eg}(f:∀a∈b.ew,IE (c a).eY):(b.qt h c).EY:=by
 intro a hl;rcases mem_modify hl with e|⟨i,g,rfl⟩
 ·exact d a e
 ·exact f i g
def qg{e:Type}(b:e->Prop){a:Prop} [Decidable a]{c d:e}(f:a->b c)(g:¬a->b d):b (if a then c else d):=by
 split
 ·exact f (by assumption)
 ·exact g (by assumption)
def uW{P:fK×Int->Prop}{p:ee}{b:fK}{e m g q:Int}(p0:P (b,0))(p1:P (b,-1))(pt:∀h c d,P (b.oZ h c,d))(f:∀h c,(∀a,(c a).eY=a.eY\/(c a).eY=lY a.eY e\/(c a).eY=a.eY.filter λi=> !decide (i=e))->P (b.qt h c,0)/\∀l k,P ((b.qt h c).oZ l k,0))
 (j:∀d,P ({b with tx:=d},0)) (o:∀c d,P ({b with dM:=b.dM.map c},d)) (n:∀d,P ({b with done:=b.done.set d true},0)):P (fg p b e m g q):=by
 unfold fg;refine qg P (λ_=>pt _ _ _) λ_=> ?_;refine qg P (λ_=>pt _ _ _) λ_=> ?_;refine qg P (λ_=>(f g (λa=>{a with iW:=e}) λ_=> .inl rfl).1) λ_=> ?_;refine qg P (λ_=>(f g (λa=>{a with iW:=-1}) λ_=> .inl rfl).1) λ_=> ?_;refine qg P (λ_=>(f g (λa=>{a with eY:=lY a.eY e}) λ_=> .inr (.inl rfl)).1) λ_=> ?_;refine qg P (λ_=>(f g (λa=>{a with eY:=a.eY.filter λi=> !decide (i=e)}) λ_=> .inr (.inr rfl)).1) λ_=> ?_;refine qg P (λ_=>j _) λ_=> ?_;refine qg P (λ_=>j _) λ_=> ?_;refine qg P (λ_=>pt _ _ _) λ_=> ?_;refine qg P (λ_=>pt _ _ _) λ_=> ?_;refine qg P (λ_=>(f _ (λa=>{a with iW:=-1}) λ_=> .inl rfl).2 _ _) λ_=> ?_;refine qg P (λ_=>(f _ (λa=>{a with iW:=e}) λ_=> .inl rfl).2 _ _) λ_=> ?_;refine qg P (λ_=>qg P (λ_=>p1) λ_=>pt _ _ _) λ_=> ?_;refine qg P (λ_=>o _ _) λ_=> ?_;refine qg P (λ_=>pt _ _ _) λ_=> ?_;exact qg P (λ_=>n _) λ_=>p0
def yc{i:fK}(b:i.EY)(m:ee)(g k l n:Int):(fg m i g k l n).1.EY:=by
 have j:∀(d:Int) (c:eg->eg),(∀a,(c a).eY=a.eY\/(c a).eY=lY a.eY g\/(c a).eY=a.eY.filter λh=> !decide (h=g))->(i.qt d c).EY:=λd c f=>Sk b λa hl=>by
  rcases f a with e|e|e<;>rw[e]
  ·exact b a hl
  ·exact Cv (b a hl) g
  ·exact(b a hl).filter _
 exact uW (P:=λh=>h.1.EY) b b (λ_ _ _=>b) (λd c f=>⟨j d c f,λ_ _=>j d c f⟩) (λ_=>b) (λ_ _=>b) (λ_=>b)
def x8(f:ee)(a:fK)(e b c g:Int):(fg f a e b c g).1.ew.length=a.ew.length/\(fg f a e b c g).1.done.length=a.done.length/\(fg f a e b c g).1.dM.length=a.dM.length:=
 uW (P:=λd=>d.1.ew.length=a.ew.length/\d.1.done.length=a.done.length/\d.1.dM.length=a.dM.length) ⟨rfl,rfl,rfl⟩ ⟨rfl,rfl,rfl⟩ (λ_ _ _=>by simp[fK.oZ]) (λ_ _ _=>by simp[fK.oZ,fK.qt]) (λ_=>⟨rfl,rfl,rfl⟩) (λ_ _=>by simp) (λ_=>by simp)
def MK{a:List Int}{b:Int}(d:∀c∈a,c<b):lY a b=a++[b]:=by
 induction a with
 |nil=>rfl
 |cons g a f=>unfold lY;rw[aq (d g dC),f λc e=>d c (by simp[e])];rfl
def ML:∀(b a:List Int),IE (a++b)->b.foldl lY a=a++b:=by
 intro b;induction b with
 |nil=>intro a _;simp
 |cons c b h=>
  intro a e;have f:∀d∈a,d<c:=λd g=>(List.pairwise_append.1 e).2.2 d g c dC;rw[List.foldl_cons,MK f,h (a++[c]) (by simpa using e)];simp
def LQ{a:List Int}(c:IE a)(b:Int): [b].foldl lY (a.foldl lY [])=lY a b:=by
 rw[ML a [] (by simpa using c)];rfl
def nG(b:ee)(a:eG):Bool:=mK b a.fO&&decide (a.cells.length=b.cells.length)&&decide (a.ei.length=b.ei.length)&&decide (a.count.length=b.dM.length)
def xL(b:Int):aa Int->List Int->Bool
 |_,[]=>true
 |p,a::c=> !(decide (a<1))&& !(decide (b<=a))&&(match p with|some d=> !(decide (a<=d))|none=>true)&&xL b (some a) c
def nW(b:eG)(a:eK):Bool:=
 if a.kind=3 then(match xr b.cells a.obj with|some c=>decide (a.value=c)|none=>false)
 else if a.kind=23 then(match xr b.ei a.obj with|some c=>decide (a.value=c)|none=>false)
 else if a.kind=5 then decide (a.value=0)||decide (a.value=1)
 else if a.kind=4\/a.kind=22 then true
 else if a.kind=18 then(if iz a.obj b.fO.dM 0=[]then decide (a.value=-1)else decide (0<=a.value)&&decide (a.value<b.fO.dM.length)&&decide (a.value∈iz a.obj b.fO.dM 0))
 else if a.kind=19 then decide (a.value=(iz a.obj b.fO.dM 0).length)
 else decide (a.value=0)
def Ay(d c:Int):List eK->Nat->Bool->Bool
 | [],_,a=>a
 |e::f,b,a=>if e.dZ=d then Ay d c f (b+1) (a||(decide ((b:Int)=c)&&(decide (e.kind=3)||decide (e.kind=23))))else Ay d c f b a
def vI(a:List eK)(d:Int)(c:List Int):Bool:=c.all λb=>Ay d b a 0 false
def LO(c:Int):∀(a:List dP) (b:Nat),(iz c a b).length<=a.length:=by
 intro a;induction a with
 |nil=>intro b;simp[iz]
 |cons e a d=>intro b;rw[iz];have:=d (b+1);split<;>simp<;>omega
def qY(a:eK):Bool:=decide (a.kind=3)||decide (a.kind=4)
def lV(a b:eK):Bool:=qY a&&qY b&&decide (a.obj=b.obj)&&(decide (a.kind=4)||decide (b.kind=4))
def qp(a:Int):Bool:=decide (a=6)||decide (a=8)||decide (a=10)||decide (a=17)||decide (a=21)
def qV(b:List eK)(a:Int):eK:=(xr b a).getD default
end
end Go.Proofs.YtmaeadedikngoaaGreatDoor
