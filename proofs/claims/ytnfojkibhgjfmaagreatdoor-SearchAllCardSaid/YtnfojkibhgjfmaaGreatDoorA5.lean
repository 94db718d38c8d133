/- TiQuick -/
import Derived.Test.YtnfojkibhgjfmaaGreatDoorA4
import Derived.KernelRfl
set_option linter.all false
set_option maxRecDepth 100000
set_option maxHeartbeats 0
namespace Go.TI
theorem dW{p:Prop}(h:p:=by kernel_rfl):p:=h
end Go.TI
namespace Go.TI
noncomputable section
section
def WL(a:Fun):Code:=Option.casesOn a.fn.body .skip λb=>b
section
variable {M nt:Nat}{K:List Nat}{pre:List T}
end
section
variable {P:List T->Prop}
end
end
mutual
def BK:T->T->Bool
 | .undef,a=>(match a with| .undef=>true|_=>false)
 | .ej y,a=>(match a with| .ej n=>Bool.casesOn y (!n) n|_=>false)
 | .int o q,a=>(match a with| .int p r=>decide (o=p)&&decide (q=r)|_=>false)
 | .str s,a=>(match a with| .str t=>decide (s=t)|_=>false)
 | .mf,a=>(match a with| .mf=>true|_=>false)
 | .mw,a=>(match a with| .mw=>true|_=>false)
 | .mH,a=>(match a with| .mH=>true|_=>false)
 | .pz,a=>(match a with| .pz=>true|_=>false)
 | .jb,a=>(match a with| .jb=>true|_=>false)
 | .eZ a h j l,b=>(match b with| .eZ d i k m=>aq a d&&aq h i&&aq j k&&aq l m|_=>false)
 | .arr a h j l g,b=>(match b with| .arr d i k m c=>aq a d&&aq h i&&aq j k&&aq l m&&Bool.casesOn g (!c) c|_=>false)
 | .map a,b=>(match b with| .map d=>aq a d|_=>false)
 | .em e g,b=>(match b with| .em f c=>Fb e f&&Bool.casesOn g (!c) c|_=>false)
 | .eQ e,b=>(match b with| .eQ f=>Fb e f|_=>false)
 | .func g e,b=>(match b with| .func c f=>aq g c&&Fb e f|_=>false)
 | .iface u w,b=>(match b with| .iface v x=>aq u v&&BK w x|_=>false)
 |_,_=>false
def Fb:List T->List T->Bool
 | [],a=>(match a with| []=>true|_=>false)
 |x::b,a=>(match a with|y::c=>BK x y&&Fb b c|_=>false)
end
def Pk{b a:Bool}(c:(@Bool.rec (λ_=>Bool) (!a) a b)):b=a:=by cases b<;>cases a<;>simp_all
mutual
def OW:(h b:T)->BK h b->h=b
 | .undef,b,a=>by cases b<;>first|rfl|simp[BK]at a
 | .ej z,b,a=>by
  cases b<;>first|(simp[BK]at a;done)|skip
  rename_i n;have a:(@Bool.rec (λ_=>Bool) (!n) n z):=by grind [BK]
  rw[Pk a]
 | .int A B,b,a=>by cases b<;>simp[BK]at a;grind
 | .str C,b,a=>by cases b<;>simp[BK]at a;grind
 | .mf,b,a=>by cases b<;>first|rfl|simp[BK]at a
 | .mw,b,a=>by cases b<;>first|rfl|simp[BK]at a
 | .mH,b,a=>by cases b<;>first|rfl|simp[BK]at a
 | .pz,b,a=>by cases b<;>first|rfl|simp[BK]at a
 | .jb,b,a=>by cases b<;>first|rfl|simp[BK]at a
 | .eZ b i j k,c,a=>by cases c<;>simp[BK]at a;grind
 | .arr b i j k g,c,a=>by
  cases c<;>first|(simp[BK]at a;done)|skip
  rename_i o p v w f;have a:(aq b o&&aq i p&&aq j v&&aq k w&& @Bool.rec (λ_=>Bool) (!f) f g):=by grind [BK]
  simp only[aC]at a;obtain⟨⟨⟨⟨q,r⟩,s⟩,t⟩,u⟩:=a;rw[aJ q,aJ r,aJ s,aJ t,Pk u]
 | .map b,c,a=>by cases c<;>simp[BK]at a;grind
 | .em d g,c,a=>by
  cases c<;>first|(simp[BK]at a;done)|skip
  rename_i e f;have a:(Fb d e&& @Bool.rec (λ_=>Bool) (!f) f g):=by grind [BK]
  simp only[aC]at a;rw[FB d e a.1,Pk a.2]
 | .eQ d,c,a=>by
  cases c<;>first|(simp[BK]at a;done)|skip
  rename_i e;have a:Fb d e:=by grind [BK]
  rw[FB d e a]
 | .func g d,c,a=>by
  cases c<;>first|(simp[BK]at a;done)|skip
  rename_i f e;have a:(aq g f&&Fb d e):=by grind [BK]
  simp only[aC]at a;rw[aJ a.1,FB d e a.2]
 | .iface x l,c,a=>by
  cases c<;>first|(simp[BK]at a;done)|skip
  rename_i y m;have a:(aq x y&&BK l m):=by grind [BK]
  simp only[aC]at a;rw[aJ a.1,OW l m a.2]
 | .kA _,b,a=>by grind [BK]
 | .iter _,b,a=>by grind [BK]
 | .tuple _,b,a=>by grind [BK]
def FB:(c a:List T)->Fb c a->c=a
 | [],a,b=>by cases a<;>first|rfl|grind [Fb]
 |x::d,a,b=>by
  cases a<;>first|(simp[Fb]at b;done)|skip
  rename_i e f;have b:(BK x e&&Fb d f):=by grind [Fb]
  simp[aC]at b;rw[OW x e b.1,FB d f b.2]
end
structure Ent where
 f:Nat
 args:List T
 h:H
 r:T
 h':H
def sO(d:ai)(cx:Ctx)(a:Ent):Prop:=
 ∀e b c (g:af am),St cx e b.heap c a.h->jc b.heap c a.args g.toList->Dd d (ut cx e b c a.h a.r a.h') ((callFunc a.f g).run d b)
mutual
def o9:T->Bool
 | .undef| .ej _| .int _ _| .str _| .mf| .jb| .mw| .mH| .pz=>true
 | .em a _=>nR a
 | .eQ a=>nR a
 | .tuple a=>nR a
 | .kA a=>nR a
 | .func _ a=>nR a
 | .iface _ b=>o9 b
 |_=>false
def nR:List T->Bool
 | []=>true
 |x::a=>o9 x&&nR a
end
mutual
def G5:(c:T)->o9 c->sL 0 c
 | .undef,_=> .undef
 | .ej _,_=> .ej _
 | .int _ _,_=> .int _ _
 | .str _,_=> .str _
 | .mf,_=> .mf
 | .jb,_=> .jb
 | .mw,_=> .mw
 | .mH,_=> .mH
 | .pz,_=> .pz
 | .em a h,b=> .em _ _ λc f=>by
  have⟨d,e,g⟩:=List.mem_flatMap.1 f;exact(mI a (by grind [o9]) d e).cells c g
 | .eQ a,b=> .eQ _ (mI a (by grind [o9]))
 | .tuple a,b=> .tuple _ (mI a (by grind [o9]))
 | .kA a,b=> .kA _ (mI a (by grind [o9]))
 | .func _ a,b=> .func _ _ (mI a (by grind [o9]))
 | .iface _ c,b=> .iface _ _ (G5 c (by grind [o9]))
 | .eZ _ _ _ _,b=>by grind [o9]
 | .arr _ _ _ _ _,b=>by grind [o9]
 | .iter _,b=>by grind [o9]
 | .map _,b=>by grind [o9]
def mI:(d:List T)->nR d->∀c∈d,sL 0 c
 | [],_=>λc b=>by grind
 |x::g,a=>λc b=>by
  unfold nR at a;rw[aC]at a;have e:=G5 x a.1;rcases List.mem_cons.1 b with f|b
  rw[f];exact e;exact mI g a.2 c b
end
def iu.move{y:af Obj}{z A:Mu}{b:T}{l:am}(a:iu y z b l)(x:∀n,pV A n->pV z n)(hl:sL 0 b):iu y A b l:=by
 induction a with
 |undef=>exact .undef
 |ej h=>exact .ej h
 |int c M=>exact .int c M
 |str N a=>exact .str N a
 |mf=>exact .mf
 |eZ h E n S o g s I R=>cases hl with|eZ _ _ _ _ a=>omega
 |kA r p off arr k fz u t f j hr e=>
  cases hl with|kA _ a=>exact .kA r p off arr k fz (λc=>u (x _ c)) t f j λc b d=>e c b d (a b (aD d))
 |qf m g=>exact .qf m g
 |em C F m p off q O arr k fz u t w K L f j hr e=>
  cases hl with|em _ _ a=>exact .em C F m p off q O arr k fz (λc=>u (x _ c)) t w K L f j λc b d=>e c b d (a b (aD d))
 |jb g q=>exact .jb g q
 |arr h E W U m o g Q s I w v=>cases hl with|arr _ _ _ _ _ a=>omega
 |func H B i f hr e=>cases hl with|func _ _ a=>exact .func H B i f λc b d=>e c b d (a b (aD d))
 |mw=>exact .mw
 |mH=>exact .mH
 |iface k b l a e=>cases hl with|iface _ _ a=>exact .iface k b l (e a)
 |iter h o g s v=>cases hl with|iter _ a=>omega
 |map h o n s v=>cases hl with|map _ a=>omega
 |pz=>exact .pz
 |eQ r i f j hr e=>cases hl with|eQ _ a=>exact .eQ r i f j λc b d=>e c b d (a b (aD d))
 |tuple P i f hr e=>cases hl with|tuple _ a=>exact .tuple P i f λc b d=>e c b d (a b (aD d))
def mT(d:ai)(cx:Ctx)(h:Nat)(g:List T)(i:T):Prop:=
 ∀e a c (f:af am) (b:H),St cx e a.heap c b->jc a.heap c g f.toList->Dd d (ut cx e a c b i b) ((callFunc h f).run d a)
def Gy{s:ai}{cx:Ctx}{u:Nat}{k:List T}{z:T}{v:H}(hl:∀i∈k,sL 0 i)(N:v.size=0)(E:sO s cx ⟨u,k,⟨0,0,[]⟩,z,v⟩):mT s cx u k z:=by
 intro W h f t X e w;have q:∀a,pV ⟨λ_=>none,pV f⟩ a->pV f a:=by
  rintro a (⟨d,b,c,_⟩|hr)
  grind
  omega
 have F:∀a,pV f a->a<h.heap.size:=by
  rintro a (⟨d,b,c,rfl⟩|hr);exact e.lt c;exact e.uv a hr
 have P:St cx h.heap.size h.heap ⟨λ_=>none,pV f⟩ ⟨0,0,[]⟩:=by
  refine⟨rfl,az _,λd b c=>by grind,λd U b S c=>by simp,λd b c=>by grind,λd b c=>by grind,λa hr=>F a hr,λn m p=>?_⟩;have:=e.CO n m p;refine this.move q ?_;have⟨_,_,_,_,_,_,_,_,_,L,_⟩:=this.nS;exact .kA _ λi l=>(L i l).2.low 0
 have B:jc h.heap ⟨λ_=>none,pV f⟩ k t.toList:=⟨w.1,λr i l=>(w.2 r i l).move q (hl i (aD l))⟩;refine(E h.heap.size h ⟨λ_=>none,pV f⟩ t P B).mono λi A ⟨⟨R,y,O,g,Y⟩,Z⟩=>?_;have K:∀a,pV f a->pV R a:=λa j=> .inr (g.ext.qy▸j);have o:Ext h.heap f A.heap f:=by
  refine⟨g.ext.size,λa j x=>⟨(g.ext.qd a j (λr=>x (q a r))).1,x⟩,λd b c=>⟨b,c,.inl rfl⟩,rfl,λa j hr=>?_⟩;exact g.ext.kept a j (.inr hr)
 have C:∀d b,f d=D b->A.heap[b.jR]? =h.heap[b.jR]? :=λd b c=>g.ext.kept b.jR (e.lt c) (.inl ⟨d,b,c,rfl⟩);refine⟨⟨f,y.move K (y.low λd b c=>N▸O.fN c),⟨e.wf,aU e.fit g.ext.size,λd b c=>?_,e.inj,e.low,e.apart,λa hr=>bO (e.uv a hr) g.ext.size,λn m p=>(e.CO n m p).ext o⟩,⟨o,g.os,g.tape,g.output⟩,BX.refl _ _⟩,mY.refl e.wf⟩;have⟨Q,M,I⟩:=e.box d b c;exact⟨Q,M,I.ext o (C d b c)⟩
def EV:List T->List T->Bool
 | [],a=>(match a with| []=>true|_=>false)
 |x::b,a=>(match a with|y::c=>EV b c&&BK x y|_=>false)
def Ct{b:ai}{cx:Ctx}{c:Nat}{a:List T}{d:T}(hl:∀f∈a,sL 0 f)(e:sO b cx ⟨c,a,⟨0,0,[]⟩,d,⟨0,0,[]⟩⟩):mT b cx c a d:=Gy hl rfl e
def VV:∀(b a:List T),EV b a->b=a:=by
 intro b;induction b with
 |nil=>intro a c;cases a<;>first|rfl|grind [EV]
 |cons f g d=>
  intro a c;rcases a with _|⟨h,e⟩
  grind [EV]
  simp[EV,aC]at c;rw[OW _ _ c.2,d e c.1]
abbrev yD:=List (Nat×List (List T×T))
def Je(e:List (List T×T))(b:List T):aa T:=
 @List.rec (List T×T) (λ_=>aa T) none (λc _ d=>Prod.casesOn c λa f=> @Bool.rec (λ_=>aa T) d (some f) (EV b a)) e
def ET(h:yD)(d:Nat)(b:List T):aa T:=
 @List.rec (Nat×List (List T×T)) (λ_=>aa T) none (λc _ a=>Prod.casesOn c λe f=> @Bool.rec (λ_=>aa T) a (Option.casesOn (Je f b) a λg=>some g) (aq d e)) h
inductive AR (P:ai) (cx:Ctx):yD->Prop where
 |nil:AR P cx []
 |new {f:Nat} {t:yD}:AR P cx t->AR P cx ((f,[])::t)
 |ent {f:Nat} {a:List T} {r:T} {l:List (List T×T)} {t:yD}:mT P cx f a r->AR P cx ((f,l)::t)->AR P cx ((f,(a,r)::l)::t)
def AR.mem{a:ai}{cx:Ctx}{f:yD}(g:AR a cx f):∀c d,(c,d)∈f->∀b e,(b,e)∈d->mT a cx c b e:=by
 induction g with
 |nil=>simp
 |new _ h=>
  grind
 |ent i _ h=>
  grind
theorem SP{c:List (List T×T)}{b:List T}{d:T}(a:Je c b=D d):(b,d)∈c:=by
 induction c with
 |nil=>grind [Je]
 |cons g c h=>
  obtain⟨f,r1⟩:=g;have a: @Bool.rec (λ_=>aa T) (Je c b) (some r1) (EV b f)=D d:=a;cases e:EV b f;rw[e]at a;grind;rw[e]at a;have a:some r1=D d:=a;cases a;rw[VV _ _ e];simp
def SO{e:yD}{c:Nat}{b:List T}{d:T}(a:ET e c b=D d):∃f,(c,f)∈e/\(b,d)∈f:=by
 induction e with
 |nil=>grind [ET]
 |cons k e m=>
  obtain⟨g,f⟩:=k;have a: @Bool.rec (λ_=>aa T) (ET e c b) (@Option.rec T (λ_=>aa T) (ET e c b) (λd=>some d) (Je f b)) (aq c g)=D d:=a;have o:ET e c b=D d->∃j,(c,j)∈(g,f)::e/\(b,d)∈j:=λn=>by
   grind
  cases h:aq c g;rw[h]at a;grind;rw[h]at a;rcases i:Je f b with _|l
  rw[i]at a;grind;rw[i]at a;have a:some l=D d:=a;cases a;rw[aJ h]
  grind [SP,List.mem_cons_self]
def VC(h:yD)(ft:aj->aa rS):aj->aa rS:=λb=>
 Option.casesOn (ft b) none λe=>some λd f a c=>Option.casesOn (ET h b a) (e d f a c) λg=>some (g,c)
def VB{i:ai}{cx:Ctx}{h:yD}{ft:aj->aa rS}(y:AR i cx h)(z:∀a c,ft a=D c->nh i cx a c):∀a c,VC h ft a=D c->nh i cx a c:=by
 intro a c f;unfold VC at f;rcases k:ft a with _|o
 rw[k]at f;grind;rw[k]at f;cases f;intro n v q d e g j b l t u m s p;have b: @Option.rec T (λ_=>aa (T×H)) (o n q d e) (λg=>some (g,e)) (ET h a d)=D (g,j):=b;rcases hE:ET h a d with _|r
 rw[hE]at b;exact z a o k n v q d e g j b l t u m s p;rw[hE]at b;have b:some (r,e)=D (g,j):=b;simp[ay,aI]at b;obtain⟨rfl,rfl⟩:=b;have⟨A,w,x⟩:=SO hE;exact y.mem a A w d r x l t u m e s p
def Aj(b:yD)(ft:aj->aa rS)(a:Nat):jU:=MX (VC b ft) a
def MW{a:ai}{cx:Ctx}{e:yD}{ft:aj->aa rS}(f:AR a cx e)(g:∀b c,ft b=D c->nh a cx b c)(d:Nat):p9 a cx (Aj e ft d):=EX (VB f g) d
def AR.next{c:ai}{cx:Ctx}{f:yD}{ft:aj->aa rS}(n:∀a g,ft a=D g->nh c cx a g){i:Nat}{a:Nat}{d:List (List T×T)}(h:AR c cx ((a,d)::f)){b:List T}{e:T}
 (hl:nR b) (m:Aj ((a,d)::f) ft i a b ⟨0,0,[]⟩=D (e,⟨0,0,[]⟩)):AR c cx ((a,(b,e)::d)::f):=
 .ent (Ct (mI b hl) λj p q k o l=>MW h n i a b ⟨0,0,[]⟩ e ⟨0,0,[]⟩ m j p q k o l) h
section
def put(a:iP)(b:Nat)(d:T):iP:=(nL a b d).getD a
def sj(d:iP)(a:Nat)(c:T):nL d a c=D (put d a c):=by
 have:∃b,nL d a c=D b:=by
  induction d with
  |nil=>exact⟨_,rfl⟩
  |cons e i b g=>
   obtain⟨h,ht⟩:=g;cases f:aq e a;simp_all[nL,Z];exact⟨.cons e c b,by show @Bool.rec (λ_=>aa iP) _ _ (aq e a)=_;rw[f]⟩
 obtain⟨b,hr⟩:=this;rw[hr];unfold put;rw[hr];rfl
def ot(b:Nat)(d:T)(c:iP)(a:Nat):Y (.cons b d c) a=if b=a then some d else Y c a:=by show @Bool.rec (λ_=>aa T) (Y c a) (some d) (aq b a)=_;cases e:aq b a;rw[aw (dj e)];rw[ax (aJ e)]
def I6(a:Nat):Y .nil a=none:=rfl
def VG(g:iP)(b:Nat)(c:T)(i:Nat):Y (put g b c) i=if b=i then some c else Y g i:=by
 have a:=sj g b c;generalize put g b c=f at a;induction g generalizing f with
 |nil=>
  have a:some (iP.cons b c .nil)=D f:=a;cases a;rw[ot,I6]
 |cons e j d k=>
  have a: @Bool.rec (λ_=>aa iP) (Z (nL d b c) λd=>some (.cons e j d)) (some (.cons e c d)) (aq e b)=D f:=a;cases h:aq e b;rw[h]at a;have a:(Z (nL d b c) λd=>some (iP.cons e j d))=D f:=a;rw[sj]at a;simp[fj,ay]at a;subst a;have:=dj h;rw[ot,ot,k _ (sj _ _ _)]
  grind
  rw[h]at a;have a:some (iP.cons e c d)=D f:=a;cases a;have:=aJ h;subst this;simp[ot];split<;>rfl
structure jD where
 n:Env->H->Prop
 x:Nat->Env->H->Prop
 r:Env->H->Prop
def W(f:Out)(c:jD):Prop:=∃d a b,f=D (d,a,b)/\Ex.casesOn d (c.n a b) (λe=>c.x e a b) (c.r a b)
@[simp]def HY (a:Env) (b:H) (d:jD):W (some (.normal,a,b)) d=d.n a b:=by apply propext;constructor;rintro⟨h,f,g,e,c⟩;simp[ay,aI]at e;obtain⟨rfl,rfl,rfl⟩:=e;exact c;exact λc=>⟨_,a,b,rfl,c⟩
@[simp]def KX (f:Nat) (a:Env) (b:H) (d:jD):W (some (.exit f,a,b)) d=d.x f a b:=by apply propext;constructor;rintro⟨i,g,h,e,c⟩;simp[ay,aI]at e;obtain⟨rfl,rfl,rfl⟩:=e;exact c;exact λc=>⟨_,a,b,rfl,c⟩
@[simp]def ahD (a:Env) (b:H) (d:jD):W (some (.ret,a,b)) d=d.r a b:=by apply propext;constructor;rintro⟨h,f,g,e,c⟩;simp[ay,aI]at e;obtain⟨rfl,rfl,rfl⟩:=e;exact c;exact λc=>⟨_,a,b,rfl,c⟩
def W7(a:jD):¬W none a:=by rintro⟨e,b,c,d,_⟩;grind
def Kc(b:Env->H->Out)(a:jD):jD:=⟨λc d=>W (b c d) a,a.x,a.r⟩
def vw(id:Nat)(a:jD):jD:=⟨a.n,λd b c=>if d=id then a.n b c else a.x d b c,a.r⟩
def BE(b:Env->H->Prop)(a:jD):jD:=⟨b,a.x,a.r⟩
theorem akg (b:Env->H->Out) (a:jD) (c:Env) (d:H):(Kc b a).n c d=W (b c d) a:=rfl
theorem acu (e:Env->H->Out) (a:jD) (d:Nat) (b:Env) (c:H):(Kc e a).x d b c=a.x d b c:=rfl
theorem akf (d:Env->H->Out) (a:jD) (b:Env) (c:H):(Kc d a).r b c=a.r b c:=rfl
theorem agG (id:Nat) (a:jD) (b:Env) (c:H):(vw id a).n b c=a.n b c:=rfl
theorem CL (id:Nat) (a:jD) (d:Nat) (b:Env) (c:H):(vw id a).x d b c=if d=id then a.n b c else a.x d b c:=rfl
theorem agF (id:Nat) (a:jD) (b:Env) (c:H):(vw id a).r b c=a.r b c:=rfl
theorem akj (a:Env->H->Prop) (d:jD) (b:Env) (c:H):(BE a d).n b c=a b c:=rfl
theorem akh (e:Env->H->Prop) (a:jD) (d:Nat) (b:Env) (c:H):(BE e a).x d b c=a.x d b c:=rfl
theorem aki (d:Env->H->Prop) (a:jD) (b:Env) (c:H):(BE d a).r b c=a.r b c:=rfl
attribute [simp] akg acu akf agG CL agF akj akh aki
@[simp]def ahC (c e:Env->H->Out) (a:Env) (b:H) (d:jD):W (F7 c e a b) d=W (c a b) (Kc e d):=by
 apply propext;unfold F7;rcases k:c a b with _|h
 constructor<;>(rintro⟨f,a,b,g,_⟩;simp[Z]at g);obtain⟨f,i,j⟩:=h;simp[fj,nK];cases f<;>simp
@[simp]def ZB (id:Nat) (g:Env->H->Out) (b:Env) (d:H) (a:jD):W (BU id g b d) a=W (g b d) (vw id a):=by
 apply propext;unfold BU;rcases l:g b d with _|k
 constructor<;>(rintro⟨i,b,d,j,_⟩;simp[Z]at j);obtain⟨i,c,e⟩:=k;simp[fj,nK];cases i with
 |normal=>simp
 |ret=>simp
 |exit f=>
  show W (@Bool.rec (λ_=>Out) (some (.exit f,c,e)) (some (.normal,c,e)) (aq f id)) a↔_;cases h:aq f id;show W (some (.exit f,c,e)) a↔_;rw[KX,KX,CL,aw (dj h)];show W (some (.normal,c,e)) a↔_;rw[HY,KX,CL,ax (aJ h)]
def V7(d:aa T)(a b:Prop):Prop:=match d with
 |some (.ej c)=>if c=true then a else b
 |_=>False
def KW{σ:Type}{g:Env->H->Out}(I:σ->Env->H->Prop)(m:σ->Nat){h:jD}
 (n:∀c a b,I c a b->W (g a b) (BE (λe f=>∃i,m i<m c/\I i e f) h)):
 ∀d c a b,m c<d->I c a b->W (qQ g d a b) h:=by
 intro d;induction d with
 |zero=>omega
 |succ d w=>
  intro c a b u l;have⟨j,r,s,o,p⟩:=n c a b l;show W (Z (g a b) λq=>three q λj e f=> @Ex.rec (λ_=>Out) (qQ g d e f) (λk=>some (.exit k,e,f)) (some (.ret,e,f)) j) h;rw[o];simp[fj,nK];cases j with
  |normal=>
   obtain⟨i,v,t⟩:=p
   grind
  |exit k=>simp_all
  |ret=>simp_all
section
variable {P:ai}{cx:Ctx}
end
end
theorem aix (c:jU) (d a:H) (b:T):fin c d (be b a)=D (b,a):=rfl
theorem ahd (b:jU) (d:H) (c:aj) (a:List T):fin b d (some (.call c a))=b c a d:=rfl
theorem B6 (a:H) (b:T):val a (some b)=be b a:=rfl
theorem K6 (a:H) (b:T):km (some (b,a))=be b a:=rfl
attribute [simp] aix ahd B6 K6
def Qy(a b:List Nat):YV a b=decide (a=b):=by rw[BL,bI];simp
def YW(a b:Int):XA a b=decide (a=b):=by rw[BM];rfl
def AH(a b:Int):Qm a b=decide (a<b):=BD a b
@[simp]theorem vy (a:ak):H9 a a=true:=by cases a<;>rfl
@[simp]theorem OY (d a:ak) (b c:Int):rL (.int d) (.int a b) (.int a c)=D (decide (b=c)):=by show iT (H9 a a) (some (XA b c))=_;rw[vy,YW];rfl
@[simp]def acS (a b:List Nat):rL .str (.str a) (.str b)=D (decide (a=b)):=by show some (YV a b)=_;rw[Qy]
@[simp]theorem MK (a b:Bool):rL .ej (.ej a) (.ej b)=D (a==b):=by cases a<;>cases b<;>rfl
@[simp]def aeq (a:ak) (b c:Int):binop .lss (.int a b) (.int a c)=D (.ej (decide (b<c))):=by show iT (H9 a a) (AY (Qm b c))=_;rw[vy,AH,iO,u7]
@[simp]def aer (a:ak) (b c:Int):binop .leq (.int a b) (.int a c)=D (.ej (decide (b<=c))):=by show iT (H9 a a) (AY (!Qm c b))=_;rw[vy,AH,iO,u7];congr 2;rw[bI];simp
@[simp]def aes (a:ak) (b c:Int):binop .gtr (.int a b) (.int a c)=D (.ej (decide (c<b))):=by show iT (H9 a a) (AY (Qm c b))=_;rw[vy,AH,iO,u7]
@[simp]def aet (a:ak) (b c:Int):binop .geq (.int a b) (.int a c)=D (.ej (decide (c<=b))):=by show iT (H9 a a) (AY (!Qm b c))=_;rw[vy,AH,iO,u7];congr 2;rw[bI];simp
def kI{a:Int}(c: -9223372036854775808<=a)(d:a<9223372036854775808):PA .i64 a=a:=by
 cases a with
 |ofNat b=>
  show @Bool.rec (λ_=>Int) _ _ (Nat.ble b 9223372036854775807)=_;rw[cE c5]
 |negSucc b=>
  show @Bool.rec (λ_=>Int) _ _ (Nat.ble b 9223372036854775807)=_;rw[cE G]
def Lp{a:Int}(b: -9223372036854775808<=a)(c:a<9223372036854775808):rk .i64 a=D (.int .i64 a):=by unfold rk;rw[kI b c,rn]
theorem jf{a b:Int}(c: -9223372036854775808<=a+b)(d:a+b<9223372036854775808):binop .add (.int .i64 a) (.int .i64 b)=D (.int .i64 (a+b)):=Lp c d
def lK{a b:Int}(c: -9223372036854775808<=a-b)(d:a-b<9223372036854775808):binop .sub (.int .i64 a) (.int .i64 b)=D (.int .i64 (a-b)):=Lp c d
def Pn{a b:Nat}(c:a<b)(d:b<9223372036854775808):binop .add (.int .i64 (a:Int)) (.int .i64 1)=D (.int .i64 ((a+1:Nat):Int)):=by rw[jf G G];rfl
@[simp]theorem aeA (a:Bool):unop .not (.ej a)=D (.ej !a):=by cases a<;>rfl
def VH{b:Type}(a:List b):m7 a=a.length:=kG a
@[simp]theorem ad5 (b:H) (a:List T) (c:Bool):akd b (.em a c)=be (.int .i64 (a.length:Nat)) b:=by show val b (Z (iZ (m7 a)) λd=>some (.int .i64 (.ofNat d)))=_;rw[VH,jv];rfl
def aei (a:List Nat):(T.str a).cells=[.str a]:=a9
def aek (a:ak) (b:Int):(T.int a b).cells=[.int a b]:=a9
def adf (a:Bool):(T.ej a).cells=[.ej a]:=a9
def aem (a:List T):(T.eQ a).cells=a:=a9
attribute [simp] aei aek adf aem
@[simp]def C7 (a b:Nat):aq a b=decide (a=b):=by rw[bI];simp
@[simp]def Zs (a b:Nat):ar a b=decide (a<=b):=by rw[bI];simp
@[simp]def Zr (a b:Nat):au a b=decide (a<b):=by rw[bI,aP];simp
def agX (a:List Nat):(T.str a).iW=true:=a9
def agZ (a:ak) (b:Int):(T.int a b).iW=true:=a9
def aec (a:Bool):(T.ej a).iW=true:=a9
def aeb (a:List T) (b:Bool):(T.em a b).iW=true:=a9
def ag1 (a:List T):(T.eQ a).iW=true:=a9
theorem ahe (off:Nat) (b:H) (a:List T):faV off b (.kA a)=Z (kZ off a) λc=>some (ni.val (.kA c) b):=rfl
theorem ad2 (c:H) (b:Ty) (a:List T):c.load b (.kA a)=lj b a:=rfl
theorem aiD {b:Type} (a:List b):kZ 0 a=D a:=rfl
theorem aiC {c:Type} (b:Nat) (d:c) (a:List c):kZ (b+1) (d::a)=kZ b a:=rfl
theorem ah1 {b:Type} (a:List b):takeN 0 a=D []:=rfl
theorem ah0 {d:Type} (b:Nat) (c:d) (a:List d):takeN (b+1) (c::a)=Z (takeN b a) λe=>some (c::e):=rfl
theorem aef (a:H) (c:List T) (b:Nat):exV a (.tuple c) b=val a (oS c b):=rfl
attribute [simp] agX agZ aec aeb ag1 ahe ad2 aiD aiC ah1 ah0 aef
end
noncomputable section
open Classical in
@[simp]theorem I5:nR []=true:=by unfold nR;rfl
@[simp]def G4 (a:T) (b:List T):nR (a::b)=(o9 a&&nR b):=by rw[nR]
@[simp]theorem Ma (a:ak) (b:Int):o9 (.int a b)=true:=by unfold o9;rfl
@[simp]theorem ad1 (a:Bool):o9 (.ej a)=true:=by unfold o9;rfl
@[simp]theorem L9 (a:List Nat):o9 (.str a)=true:=by unfold o9;rfl
@[simp]theorem adZ:o9 .jb=true:=by unfold o9;rfl
@[simp]def ad0 (a:List T) (b:Bool):o9 (.em a b)=nR a:=by rw[o9]
@[simp]def Mb (a:List T):o9 (.eQ a)=nR a:=by rw[o9]
def Sy{d:Type}(c:d->T)(e:∀b,o9 (c b)):∀a:List d,nR (a.map c)=true:=by
 intro a;induction a with
 |nil=>simp
 |cons b a f=>simp[e b,f]
def SL(b:T)(a:List T):Prop:=(b= .jb/\a=[])\/∃c,b= .em a c
def sl(a:List T):T:=match a with| []=> .jb|x::b=> .em (x::b) false
def ZC(a:List T)(b:Bool):SL (.em a b) a:= .inr ⟨b,rfl⟩
def SL.jQ{b:T}{a:List T}(d:SL b a)(c:H):c.jQ b=D a:=by rcases d with⟨rfl,rfl⟩|⟨e,rfl⟩<;>rfl
theorem SL.cells{a:T}{b:List T}(c:SL a b):a.cells=[a]:=by rcases c with⟨rfl,rfl⟩|⟨d,rfl⟩<;>rfl
theorem SL.iW{a:T}{b:List T}(c:SL a b):a.iW=true:=by rcases c with⟨rfl,rfl⟩|⟨d,rfl⟩<;>rfl
end
noncomputable section
def Hp(a:H):Prop:=a.iv.length=a.size
def ZK{a:H}(c:Hp a)(b:jI):Hp (a.cons b):=by grind [Hp,H.cons]
@[simp]theorem size_cons (a:H) (b:jI):(a.cons b).size=a.size+1:=rfl
def fF(a:H)(b:Nat)(c:jI):H:=(a.put b c).getD a
def Lu{b:H}(i:Hp b){a:Nat}(h:a<b.size)(e:jI):b.put a e=D (fF b a e):=by
 have:∃d,b.put a e=D d:=by
  obtain⟨c,f,j⟩:=b;unfold Hp at i
  dsimp at i h
  show∃d,(iT (au a c) (Z (lQ j (Nat.sub (Nat.sub c 1) a) e) λg=> @Bool.rec (λ_=>aa H) (some ⟨c,f,g⟩) (some ⟨c,a,g⟩) (au a f)))=D d;rw[show au a c=true from aP▸h,iO,mt,ax c5,fj];cases au a f<;>exact⟨_,rfl⟩
 obtain⟨d,k⟩:=this;unfold fF;rw[k];rfl
def NV{b:H}(m:Hp b){a:Nat}(h:a<b.size)(c:jI):Hp (fF b a c)/\(fF b a c).size=b.size/\∀f,(fF b a c).get f=if f=a then some c else b.get f:=by
 have e:=Lu m h c;generalize fF b a c=g at*
 obtain⟨d,j,k⟩:=b;unfold Hp at*
 dsimp at m h
 have e:(iT (au a d) (Z (lQ k (Nat.sub (Nat.sub d 1) a) c) λl=> @Bool.rec (λ_=>aa H) (some ⟨d,j,l⟩) (some ⟨d,a,l⟩) (au a j)))=D g:=e;rw[show au a d=true from aP▸h,iO,mt,ax c5,fj]at e;have o:g.size=d/\g.iv=k.set (d-1-a) c:=by
  cases hl:au a j<;>rw[hl]at e<;>simp[ay]at e<;>subst e<;>exact⟨rfl,rfl⟩
 obtain⟨i,n⟩:=o;refine⟨by rw[i,n];grind,i,λf=>?_⟩;rw[H.get_eq,H.get_eq,i,n]
 grind
def get_put{b:H}(f:Hp b){c:Nat}(e:c<b.size)(d:jI)(a:Nat):(fF b c d).get a=if a=c then some d else b.get a:=(NV f e d).2.2 a
@[simp]theorem aiz (off:Nat) (c:H) (a b d e:Nat):faV off c (.eZ a b d e)=be (.eZ a b d (e+off)) c:=by show(Z (iZ (Nat.add e off)) λf=>some (ni.val (.eZ a b d f) c))=_;rw[jv];rfl
@[simp]theorem Vy (a:H) (b:Nat->T) (c:jI):km (a.new b c)=be (b a.size) (a.cons c):=by rw[H.mL];rfl
theorem Oz{a:H}(b:Hp a)(f c:T):xz 0 0 f c a=D (c,⟨0,0,[]⟩):=by
 obtain⟨d,e,g⟩:=a;unfold Hp at b
 dsimp at b
 unfold xz;simp only;rw[show Nat.sub d 0=d from rfl,nV,ax G,fj,show ar 0 e=true by simp]
 grind
def Mf{a:H}(e:Hp a){b c:T}(d:j4 a 0 b=D c):G8 false 0 0 b a=D (c,⟨0,0,[]⟩):=by
 show @Option.rec T (λ_=>aa (T×H)) (pP 0 b a) (λc=>xz 0 0 b c a) (j4 a 0 b)=_;rw[d]
 grind [Oz]
inductive ZL:T->Prop where
 |ej (b:Bool):ZL (.ej b)
 |int (k:ak) (n:Int):ZL (.int k n)
 |str (s:List Nat):ZL (.str s)
 |em (es:List T) (f:Bool):ZL (.em es f)
 |jb:ZL .jb
theorem ZL.freeze{a:T}(d:ZL a)(c:H)(e b:Nat):freeze c e (b+1) a=D a:=by cases d<;>rfl
def ww{c:T->aa T}{a:List T}(d:∀b∈a,c b=D b):iK c a=D a:=by
 induction a with
 |nil=>rfl
 |cons b h e=>
  rw[kv,d b V,e λf g=>d f c5];rfl
def ahR(b:T):Prop:=ZL b\/∃a,b= .eQ a/\∀c∈a,ZL c
theorem ahR.freeze{e:T}(d:ahR e)(b:H)(c a:Nat):freeze b c (a+2) e=D e:=by rcases d with d|⟨f,rfl,g⟩;exact d.freeze b c (a+1);show(Z (iK (Go.TI.freeze b c (a+1)) f) λi=>some (T.eQ i))=_;rw[ww λj h=>(g j h).freeze b c a];rfl
section
def D4(b:List (Nat×Nat))(c d:Nat):Bool:=b.any λa=>a.1==c&&a.2==d
def nC(a:List (Nat×Nat))(b:Nat):Bool:=a.any λc=>c.1==b
def Jd{a:List (Nat×Nat)}{b c:Nat}(h:D4 a b c):nC a b=true:=by
 unfold D4 at h;unfold nC;rw[List.any_eq_true]at h|-
 grind
def Ze(g:List (Nat×Nat))(c:af Oper):Bool:=
 let f:=Po c.toList []
 let d:=c.toList.zipIdx
 d.all λa=>d.all λb=> !au b.2 a.2|| !((wx b.1.op&&jt a.1.op)||(jt b.1.op&&(wx a.1.op||jt a.1.op)))||(f.getD a.2 0).testBit b.2||D4 g b.2 a.2
def HH{g:List (Nat×Nat)}{f:af Oper}(i:Ze g f){a b:Nat}{d c:Oper}(m:f[a]? =D d)(o:f[b]? =D c)(q:a<b)
 (p:(wx d.op/\jt c.op=true)\/(jt d.op/\(wx c.op\/jt c.op=true))):kL f a b\/D4 g a b=true:=by
 unfold Ze at i;have k:=List.all_eq_true.1 i (c,b) (mem_zipIdx o);have h2:=List.all_eq_true.1 k (d,a) (mem_zipIdx m);have l:au a b:=by rw[aP];omega
 simp only[l,Bool.not_true,Bool.false_or,cj,cK]at h2;rcases h2 with(h2|h2)|h2
 exfalso;rcases p with⟨j,k2⟩|⟨j,k2|k2⟩<;>simp[j,k2]at h2
 exact .inl h2
 grind
def oU(c:List (Nat×Nat))(f b:Nat)(d:List (Nat×H×H)):Prop:=∀a∈d,D4 c a.1 f->gJ a.2.1 a.2.2 b=true
def Ag(b:List (Nat×Nat))(d:Nat)(h c:H)(f:List (Nat×Nat)):Prop:=∀a∈f,D4 b a.1 d->gJ h c a.2=true
@[simp]def acq (b:List (Nat×Nat)) (c a:Nat):oU b c a []=True:=by simp[oU]
@[simp]def aaO (b:List (Nat×Nat)) (c a g:Nat) (h f:H) (d:List (Nat×H×H)):oU b c a ((g,h,f)::d)=((D4 b g c->gJ h f a=true)/\oU b c a d):=by simp[oU]
@[simp]def aeg (a:List (Nat×Nat)) (c:Nat) (h b:H):Ag a c h b []=True:=by simp[Ag]
@[simp]def acU (a:List (Nat×Nat)) (c f d:Nat) (h b:H) (g:List (Nat×Nat)):Ag a c h b ((f,d)::g)=((D4 a f c->gJ h b d=true)/\Ag a c h b g):=by simp[Ag]
open Classical in
def AX(cx:Ctx)(cf:jU)(M:Nat)(g:af Oper)(b:List (Nat×Nat)):List Oper->Nat->List (Nat×Nat)->List (Nat×H×H)->Env->H->aa (Env×H)
 | [],_,_,_,e,h=>some (e,h)
 |o::k,a,f,c,e,h=>Z (nj cx cf M g e h o) λm=>two m λj d=>
  Z (md g M e o.guard) λr=>
   if r=true then
    if jt o.op=true then
     if Ag b a h d f/\(∀p l q i,o.op= .store p l q->Z (iG cx M e l) fa=D i->oU b a i c)then
      AX cx cf M g b k (a+1) f (if nC b a=true then(a,h,d)::c else c) j d else none
    else match jd cx M e h o.op with
     |none=>AX cx cf M g b k (a+1) f c j d
     |some i=>if oU b a i c then AX cx cf M g b k (a+1) (if nC b a=true then(a,i)::f else f) c j d else none
   else AX cx cf M g b k (a+1) f c j d
section
variable {cx:Ctx}{cf:jU}{n M:Nat}
def Lj{o:List (Nat×Nat)}{c:af Oper}(L:Ze o c):∀(l:List Oper) (b:Nat) (u:List (Nat×Nat)) (r:List (Nat×H×H)) (g:Seen) (e:Env) (h:H) (q:Env×H),(∀m,l[m]? =c[b+m]?)->
 (∀a∈g.oG,a.1<b/\(∃d,c[a.1]? =D d/\wx d.op=true)/\(nC o a.1->a∈u))->
 (∀a∈g.mQ,a.1<b/\(∃d,c[a.1]? =D d/\jt d.op=true)/\(nC o a.1->a∈r))->
 AX cx cf M c o l b u r e h=D q->lf cx cf M c l b g e h=D q:=by
 intro l;induction l with
 |nil=>intro b u r g e h q _ _ _ f;exact f
 |cons d l P=>
  intro b u r g e h q hl B A f;have N:c[b]? =D d:=by have:=hl 0;grind
  have O:∀m,l[m]? =c[b+1+m]? :=λm=>by
   have:=hl (m+1);simp only[dI]at this;rw[this];grind
  show(Z (nj cx cf M c e h d) λa=>two a λp i=>
   Z (md c M e d.guard) λal=> @Bool.rec (λ_=>aa (Env×H)) (lf cx cf M c l (b+1) g p i)
    (@Bool.rec (λ_=>aa (Env×H))
      (@Option.rec Nat (λ_=>aa (Env×H)) (lf cx cf M c l (b+1) g p i)
        (λj=>iT (qF c b j g.mQ) (lf cx cf M c l (b+1) ⟨(b,j)::g.oG,g.mQ⟩ p i)) (jd cx M e h d.op))
      (iT (Ba c b h i g.oG) (iT (uD cx M c b e g.mQ d.op) (lf cx cf M c l (b+1) ⟨g.oG,(b,h,i)::g.mQ⟩ p i))) (jt d.op)) al)=D q
  unfold AX at f;obtain⟨⟨p,i⟩,X,f⟩:=ed.1 f;simp only[m6]at f;obtain⟨w,Y,f⟩:=ed.1 f;rw[X,fj,m6,Y,fj];have W:∀a∈g.oG,a.1<b+1/\(∃d,c[a.1]? =D d/\wx d.op=true)/\(nC o a.1->a∈u):=λa k=>⟨iH (B a k).1,(B a k).2⟩;have S:∀a∈g.mQ,a.1<b+1/\(∃d,c[a.1]? =D d/\jt d.op=true)/\(nC o a.1->a∈r):=λa k=>⟨iH (A a k).1,(A a k).2⟩;have lk:∀j,(wx d.op\/jt d.op=true)->oU o b j r->qF c b j g.mQ=true:=by
   intro j T s;unfold qF;rw[Da,cF];intro a k;obtain⟨E,⟨ae,F,I⟩,K⟩:=A a k;show @Bool.rec (λ_=>Bool) (kL c a.1 b) true (gJ a.2.1 a.2.2 j)=true;rcases HH L F N E (.inr ⟨I,T⟩)with C|t
   rw[C];cases gJ a.2.1 a.2.2 j<;>rfl;rw[s a (K (Jd t)) t]
  cases w
  grind
  simp only[if_true]at f;cases z:jt d.op;rw[z]at f;simp only[df,if_false]at f;simp only;rcases y:jd cx M e h d.op with _|j
  rw[y]at f;grind;rw[y]at f;simp only at f;split at f;rename_i s;have U:=Mc y;simp only[lk j (.inl U) s,iO];refine P (b+1) _ _ _ p i q O (λa k=>?_) S f
  grind
  grind
  rw[z]at f;simp only[if_true]at f;split at f;rename_i s;have Q:Ba c b h i g.oG:=by
   unfold Ba;rw[Da,cF];intro a k;obtain⟨E,⟨ae,F,I⟩,K⟩:=B a k;show @Bool.rec (λ_=>Bool) (kL c a.1 b) true (gJ h i a.2)=true;rcases HH L F N E (.inl ⟨I,z⟩)with C|t
   rw[C];cases gJ h i a.2<;>rfl;rw[s.1 a (K (Jd t)) t]
  have R:uD cx M c b e g.mQ d.op:=by
   unfold uD;split;rename_i m x v ap;rcases an:Z (iG cx M e x) fa with _|j
   rfl
   grind
   rfl
  simp only[Q,R,iO];refine P (b+1) _ _ _ p i q O W (λa k=>?_) f
  grind
  grind
abbrev DL:=List (Nat×List (Nat×Nat))
def T0(cx:Ctx)(cf:jU)(M:Nat)(dl:DL)(id:Nat)(a:af Oper)(e:Env)(h:H):Out:=
 match dl.lookup id with
 |none=>Z (mo cx cf M a a.toList ⟨e.vars,.nil⟩ h) λd=>two d λb c=>some (.normal,⟨b.vars,.nil⟩,c)
 |some f=>Z (AX cx cf M a f a.toList 0 [] [] ⟨e.vars,.nil⟩ h) λd=>two d λb c=>some (.normal,⟨b.vars,.nil⟩,c)
def kw(cx:Ctx)(cf:jU)(b M:Nat)(dl:DL):Code->Env->H->Out
 | .skip=>λe h=>some (.normal,e,h)
 | .region id f _=>T0 cx cf M dl id f
 | .seq c a=>F7 (kw cx cf b M dl c) (kw cx cf b M dl a)
 | .cond d c a=>MP cx M d (kw cx cf b M dl c) (kw cx cf b M dl a)
 | .block id a=>BU id (kw cx cf b M dl a)
 | .loop a=>qQ (kw cx cf b M dl a) b
 | .exit id=>λe h=>some (.exit id,e,h)
 | .ret=>λe h=>some (.ret,e,h)
 |_=>λ_ _=>none
def o8(dl:DL):Code->Bool
 | .region id d c=>(match dl.lookup id with|none=> !c||PO d|some f=>c&&Ze f d)
 | .seq a b=>o8 dl a&&o8 dl b
 | .cond _ a b=>o8 dl a&&o8 dl b
 | .block _ a=>o8 dl a
 | .loop a=>o8 dl a
 |_=>true
def tV{dl:DL}:∀(o:Code),o8 dl o->∀e h b,kw cx cf n M dl o e h=D b->ll cx cf n M o e h=D b:=by
 intro o;induction o with
 |region id j x=>
  intro c e h b a;obtain⟨s,E⟩:=e;replace a:T0 cx cf M dl id j ⟨s,E⟩ h=D b:=a;unfold T0 at a;simp[o8]at c;rcases hl:dl.lookup id with _|I
  rw[hl]at a c
  dsimp at a c
  cases x;exact a;simp[Bool.not_true,Bool.false_or]at c;show(Z (lf cx cf M j j.toList 0 ⟨[],[]⟩ ⟨s,.nil⟩ h) λb=>two b λf g=>some (Ex.normal,(⟨f.vars,.nil⟩:Env),g))=D b;rw[JG c j.toList 0 ⟨[],[]⟩ ⟨s,.nil⟩ h (λu=>by simp) (λl q=>by grind) (λl q=>by grind)];exact a;rw[hl]at a c;simp[aC]at a c;obtain⟨rfl,c⟩:=c;obtain⟨l,q,a⟩:=ed.1 a;show(Z (lf cx cf M j j.toList 0 ⟨[],[]⟩ ⟨s,.nil⟩ h) λb=>two b λf g=>some (Ex.normal,(⟨f.vars,.nil⟩:Env),g))=D b;rw[Lj c j.toList 0 [] [] ⟨[],[]⟩ ⟨s,.nil⟩ h l (λu=>by simp) (λl q=>by grind) (λl q=>by grind) q,fj];exact a
 |seq d m v B=>
  intro c e h b a;simp[o8,aC]at c;have a:F7 (kw cx cf n M dl d) (kw cx cf n M dl m) e h=D b:=a;show F7 (ll cx cf n M d) (ll cx cf n M m) e h=D b;unfold F7 at*
  obtain⟨⟨k,y,z⟩,p,a⟩:=ed.1 a;rw[v c.1 e h _ p,fj];simp[nK]at*
  cases k with
  |normal=>grind
  |exit r=>exact a
  |ret=>exact a
 |cond w d m v B=>
  intro c e h b a;simp[o8,aC]at c;have a:MP cx M w (kw cx cf n M dl d) (kw cx cf n M dl m) e h=D b:=a;show MP cx M w (ll cx cf n M d) (ll cx cf n M m) e h=D b;unfold MP at*
  obtain⟨F,A,a⟩:=ed.1 a;rw[A,fj];cases F<;>first|exact a|skip
  rename_i u;cases u
  grind
  grind
 |block id d t=>
  intro c e h b a;simp[o8]at c;have a:BU id (kw cx cf n M dl d) e h=D b:=a;show BU id (ll cx cf n M d) e h=D b;unfold BU at*
  obtain⟨l,p,a⟩:=ed.1 a;rw[t c e h _ p,fj];exact a
 |loop d t=>
  intro c e h b a;simp[o8]at c;have C:∀i e h b,qQ (kw cx cf n M dl d) i e h=D b->qQ (ll cx cf n M d) i e h=D b:=by
   intro i;induction i with
   |zero=>simp[qQ]
   |succ i K=>
    intro e h b a;have a:(Z (kw cx cf n M dl d e h) λb=>three b λk f g=> @Ex.rec (λ_=>Out) (qQ (kw cx cf n M dl d) i f g) (λr=>some (.exit r,f,g)) (some (.ret,f,g)) k)=D b:=a;show(Z (ll cx cf n M d e h) λb=>three b λk f g=> @Ex.rec (λ_=>Out) (qQ (ll cx cf n M d) i f g) (λr=>some (.exit r,f,g)) (some (.ret,f,g)) k)=D b;obtain⟨⟨k,y,z⟩,p,a⟩:=ed.1 a;rw[t c e h _ p,fj];simp[nK]at*
    cases k with
    |normal=>grind
    |exit r=>exact a
    |ret=>exact a
  exact C n e h b a
 |_=>intro _ e h b a;first|exact a|(simp[kw]at a)
def WR(cx:Ctx)(cf:jU)(M:Nat)(f:af Oper)(d:List Oper)(i g:iP)(h:H)(c:iP->H->Prop):Prop:=
 ∃a b,mo cx cf M f d ⟨i,g⟩ h=D (a,b)/\c a.vars b
def WX(c:aa (T×H))(b:T->H->Prop):Prop:=∃a h,c=D (a,h)/\b a h
@[simp]def Dc (b:T) (h:H) (d:T->H->Prop):WX (some (b,h)) d=d b h:=by apply propext;constructor;rintro⟨g,f,c,a⟩;simp[ay,aI]at c;obtain⟨rfl,rfl⟩:=c;exact a;exact λa=>⟨b,h,rfl,a⟩
def WD(M:Nat)(g:aa Tmp)(f:T)(d c:iP)(a:iP->iP->Prop):Prop:=match g with
 |none=>a d c
 |some b=>if lL M b=true then a (put d b f) c else a d (.cons b f c)
def G9(a b:Nat):(lL a b=true)=((a>>>b)&&&1=1):=by apply propext;show aq ((a>>>b)&&&1) 1=true↔_;exact⟨aJ,λh=>by rw[h];rfl⟩
def KZ(a:Tmp)(d:T)(f c:iP)(b:iP->iP->Prop):WD M (some a) d f c b=if(M>>>a)&&&1=1 then b (put f a d) c else b f (.cons a d c):=by simp[WD,G9]
def Xc(i:af Oper)(a b:iP)(h:H)(c:iP->H->Prop):WR cx cf M i [] a b h c=c a h:=by
 apply propext;constructor;rintro⟨e,g,d,f⟩;have d:some ((⟨a,b⟩:Env),h)=D (e,g):=d
 grind
 exact λf=>⟨⟨a,b⟩,h,rfl,f⟩
def KY(l:af Oper)(k:Oper)(j:List Oper)(b a:iP)(h:H)(q:iP->H->Prop):
 WR cx cf M l (k::j) b a h q=WX (B7 cx cf M l ⟨b,a⟩ h k) λc d=>WD M k.dst c b a λb a=>WR cx cf M l j b a d q:=by
 have u:∀c d,(∃f,Env.dst M ⟨b,a⟩ k.dst c=D f/\WR cx cf M l j f.vars f.tmps d q)↔WD M k.dst c b a λb a=>WR cx cf M l j b a d q:=by
  intro c d;rcases x:k.dst with _|m
  constructor;rintro⟨f,g,p⟩;have g:some (⟨b,a⟩:Env)=D f:=g;cases g;exact p;exact λp=>⟨_,rfl,p⟩;have hE:Env.dst M ⟨b,a⟩ (some m) c=D (if lL M m=true then⟨put b m c,a⟩else⟨b,.cons m c a⟩):=by
   show @Bool.rec (λ_=>aa Env) (some ⟨b,.cons m c a⟩) (Z (nL b m c) λj=>some ⟨j,a⟩) (lL M m)=_;rw[sj];cases lL M m<;>rfl
  rw[hE];unfold WD;simp[ay,exists_eq_left'];split<;>rfl
 apply propext;have v:mo cx cf M l (k::j) ⟨b,a⟩ h=Z (nj cx cf M l ⟨b,a⟩ h k) λw=>two w λo d=>mo cx cf M l j o d:=rfl;unfold WR;rw[v,uE];constructor;rintro⟨o,d,i,s⟩;have⟨⟨c,r⟩,t,i⟩:=ed.1 i;simp[m6]at i;have⟨f,g,i⟩:=ed.1 i;exact⟨c,r,t,(u c r).1 ⟨f,g,o,d,i,s⟩⟩;rintro⟨c,r,t,p⟩;have⟨f,g,o,d,i,s⟩:=(u c r).2 p;refine⟨o,d,?_,s⟩;rw[t,fj,m6,g,fj];exact i
def ahI(f:af Oper)(g:aa Tmp)(i:Op)(m:ab)(l:String)(j:af Edge)(d:List Oper)(b a:iP)(h:H)(c:iP->H->Prop):
 WR cx cf M f (⟨g,i,m,l,j,none⟩::d) b a h c=WX (fin cf h (ka i cx M ⟨b,a⟩ h)) λo k=>WD M g o b a λb a=>WR cx cf M f d b a k c:=KY f _ d b a h c
def WG(c:aa Bool)(a b:Prop):Prop:=match c with|some true=>a|some false=>b|none=>False
def Rb(a b:Prop):WG (some true) a b=a:=rfl
def Nh(b a:Prop):WG (some false) b a=a:=rfl
def Xd(c:af Oper)(i:aa Tmp)(k:Op)(q:ab)(p:String)(o:af Edge)(f:Nat)(d:Bool)(j:List Oper)(b a:iP)(h:H)(g:iP->H->Prop):
 WR cx cf M c (⟨i,k,q,p,o,some (f,d)⟩::j) b a h g=WG (md c M ⟨b,a⟩ (some (f,d)))
  (WX (fin cf h (ka k cx M ⟨b,a⟩ h)) λm l=>WD M i m b a λb a=>WR cx cf M c j b a l g)
  (WD M i .undef b a λb a=>WR cx cf M c j b a h g):=by
 rw[KY];show WX (Z (md c M ⟨b,a⟩ (some (f,d))) λs=> @Bool.rec (λ_=>aa (T×H)) (some (.undef,h)) (fin cf h (ka k cx M ⟨b,a⟩ h)) s) _=_;cases md c M ⟨b,a⟩ (some (f,d))with
 |none=>apply propext;constructor<;>(first|(rintro⟨m,l,t,_⟩;simp_all)|exact False.elim)
 |some r=>cases r<;>simp[Rb,Nh]
def PD(a:aa T)(b:Bool):aa Bool:=Z a λa=>match a with| .ej c=>some (c==b)|_=>some false
@[simp]theorem FU (b a:Bool):PD (some (.ej b)) a=D (b==a):=rfl
@[simp]theorem ZQ (a:Bool):PD (some .undef) a=D false:=rfl
@[simp]def FV (d:List Oper) (e:Env) (c:Nat) (f:Bool):md d.toArray M e (some (c,f))=PD (Z (Z (d[c]?) λb=>b.dst) λa=>e.get M a) f:=by
 show(Z (Z (Z (oS d.toArray.toList c) λb=>b.dst) λa=>e.get M a) λg=>_)=_;rw[mV];unfold PD;simp only;cases (Z (Z (d[c]?) λb=>b.dst) λa=>e.get M a)with
 |none=>rfl
 |some g=>cases g<;>first|rfl|(rename_i i;cases i<;>cases f<;>rfl)
@[simp]theorem Fy (c b:iP) (a:Nat):Env.get M ⟨c,b⟩ a=if(M>>>a)&&&1=1 then Y c a else Y b a:=by show @Bool.rec (λ_=>aa T) (Y b a) (Y c a) (lL M a)=_;simp only[<-G9];cases lL M a<;>rfl
def Pt(cx:Ctx)(cf:jU)(M:Nat)(k:af Oper)(d:List (Nat×Nat))(i:List Oper)(g:Nat)(j:List (Nat×Nat))(f:List (Nat×H×H))(m l:iP)(h:H)(c:iP->H->Prop):Prop:=
 ∃a b,AX cx cf M k d i g j f ⟨m,l⟩ h=D (a,b)/\c a.vars b
def Ra(m:af Oper)(g:List (Nat×Nat))(k:Nat)(l:List (Nat×Nat))(i:List (Nat×H×H))(a b:iP)(h:H)(c:iP->H->Prop):Pt cx cf M m g [] k l i a b h c=c a h:=by
 apply propext;constructor;rintro⟨e,j,d,f⟩;have d:some ((⟨a,b⟩:Env),h)=D (e,j):=d
 grind
 exact λf=>⟨⟨a,b⟩,h,rfl,f⟩
def DK(cx:Ctx)(M:Nat)(d:List (Nat×Nat))(a:Nat)(f:List (Nat×Nat))(b:List (Nat×H×H))(i:Op)(e:Env)(h j:H)(g:List (Nat×Nat)->List (Nat×H×H)->Prop):Prop:=
 if jt i=true then(Ag d a h j f/\(∀l k m c,i= .store l k m->Z (iG cx M e k) fa=D c->oU d a c b))/\g f (if nC d a=true then(a,h,j)::b else b)
 else match jd cx M e h i with
  |none=>g f b
  |some c=>oU d a c b/\g (if nC d a=true then(a,c)::f else f) b
def Ng(u:af Oper)(y:List (Nat×Nat))(i:Oper)(x:List Oper)(z:Nat)(q:List (Nat×Nat))(o:List (Nat×H×H))(b a:iP)(h:H)(A:iP->H->Prop):
 Pt cx cf M u y (i::x) z q o b a h A=WG (md u M ⟨b,a⟩ i.guard)
  (WX (fin cf h (ka i.op cx M ⟨b,a⟩ h)) λj c=>DK cx M y z q o i.op ⟨b,a⟩ h c λq o=>WD M i.dst j b a λb a=>Pt cx cf M u y x (z+1) q o b a c A)
  (WD M i.dst .undef b a λb a=>Pt cx cf M u y x (z+1) q o b a h A):=by
 have t:∀j c (q:List (Nat×Nat)) (o:List (Nat×H×H)),(∃g,Env.dst M ⟨b,a⟩ i.dst j=D g/\Pt cx cf M u y x (z+1) q o g.vars g.tmps c A)↔WD M i.dst j b a λb a=>Pt cx cf M u y x (z+1) q o b a c A:=by
  intro j c q o;rcases N:i.dst with _|v
  constructor;rintro⟨g,f,r⟩;have f:some (⟨b,a⟩:Env)=D g:=f;cases f;exact r;exact λr=>⟨_,rfl,r⟩;have hE:Env.dst M ⟨b,a⟩ (some v) j=D (if lL M v=true then⟨put b v j,a⟩else⟨b,.cons v j a⟩):=by
   show @Bool.rec (λ_=>aa Env) (some ⟨b,.cons v j a⟩) (Z (nL b v j) λx=>some ⟨x,a⟩) (lL M v)=_;rw[sj];cases lL M v<;>rfl
  rw[hE];unfold WD;simp[ay,exists_eq_left'];split<;>rfl
 apply propext;constructor;rintro⟨l,c,p,m⟩;unfold AX at p;rw[uE]at p;obtain⟨⟨j,E⟩,s,F⟩:=ed.1 p;simp[m6]at F;obtain⟨g,f,I⟩:=ed.1 F;obtain⟨C,r,k⟩:=ed.1 I;clear p F I;unfold B7 at s;rw[r,fj]at s;rw[r];cases C;replace s:some (T.undef,h)=D (j,E):=s;simp[ay,aI]at s;obtain⟨rfl,rfl⟩:=s;simp[df]at k;exact(t _ _ q o).1 ⟨g,f,l,c,k,m⟩;simp at k;refine⟨j,E,s,?_⟩;unfold DK;split;rename_i hE;rw[ax hE]at k;split at k;rename_i w;exact⟨w,(t _ _ _ _).1 ⟨g,f,l,c,k,m⟩⟩
 grind
 rename_i hE;rw[aw hE]at k;rcases B:jd cx M ⟨b,a⟩ h i.op with _|L
 rw[B]at k;exact(t _ _ _ _).1 ⟨g,f,l,c,k,m⟩;rw[B]at k
 dsimp at k
 split at k;rename_i w;exact⟨w,(t _ _ _ _).1 ⟨g,f,l,c,k,m⟩⟩
 grind
 intro d;unfold Pt AX;rw[uE];rcases r:md u M ⟨b,a⟩ i.guard with _|C
 rw[r]at d;exact d.elim;rw[r]at d;have K:B7 cx cf M u ⟨b,a⟩ h i= @Bool.rec (λ_=>aa (T×H)) (some (.undef,h)) (fin cf h (ka i.op cx M ⟨b,a⟩ h)) C:=by
  unfold B7;rw[r,fj]
 cases C;obtain⟨g,f,l,c,p,m⟩:=(t _ _ q o).2 d;refine⟨l,c,?_,m⟩;rw[K];simp_all;obtain⟨j,E,s,d⟩:=d;rw[K];simp[s,fj,m6];unfold DK at d;split at d;rename_i hE;obtain⟨w,d⟩:=d;obtain⟨g,f,l,c,p,m⟩:=(t _ _ _ _).2 d;refine⟨l,c,?_,m⟩;rw[f,fj,ax hE,ax w];exact p;rename_i hE;rcases B:jd cx M ⟨b,a⟩ h i.op with _|L
 rw[B]at d;obtain⟨g,f,l,c,p,m⟩:=(t _ _ _ _).2 d;refine⟨l,c,?_,m⟩;rw[f,fj,aw hE];exact p;rw[B]at d;obtain⟨w,d⟩:=d;obtain⟨g,f,l,c,p,m⟩:=(t _ _ _ _).2 d;refine⟨l,c,?_,m⟩;rw[f,fj,aw hE];simp only;rw[ax w];exact p
def adz(l:af Oper)(f:List (Nat×Nat))(m:aa Tmp)(k:Op)(r:ab)(q:String)(p:af Edge)(j:List Oper)(g:Nat)(d:List (Nat×Nat))(c:List (Nat×H×H))(b a:iP)(h:H)(i:iP->H->Prop):
 Pt cx cf M l f (⟨m,k,r,q,p,none⟩::j) g d c b a h i=
  WX (fin cf h (ka k cx M ⟨b,a⟩ h)) λs o=>DK cx M f g d c k ⟨b,a⟩ h o λd c=>WD M m s b a λb a=>Pt cx cf M l f j (g+1) d c b a o i:=Ng l f _ j g d c b a h i
def RK(cx:Ctx)(cf:jU)(M:Nat)(d:af Oper)(c:List Oper)(a f:iP)(h:H)(b:jD):Prop:=WR cx cf M d c a f h λa h=>b.n ⟨a,.nil⟩ h
def XK(k:aa (T×H))(cx:Ctx)(cf:jU)(M:Nat)(i:af Oper)(d:aa Tmp)(g:List Oper)(b a:iP)(c:jD):Prop:=WX k λj f=>WD M d j b a λb a=>RK cx cf M i g b a f c
def GK(j:aa Bool)(cx:Ctx)(cf:jU)(M:Nat)(g:af Oper)(d:aa Tmp)(i:Op)(f:List Oper)(b a:iP)(h:H)(c:jD):Prop:=
 WG j (XK (fin cf h (ka i cx M ⟨b,a⟩ h)) cx cf M g d f b a c) (WD M d .undef b a λb a=>RK cx cf M g f b a h c)
@[simp]def akL (c:af Oper) (a d:iP) (h:H) (b:jD):RK cx cf M c [] a d h b=b.n ⟨a,.nil⟩ h:=Xc c a d h _
@[simp]def alj (g:af Oper) (c:aa Tmp) (f:Op) (l:ab) (k:String) (j:af Edge) (d:List Oper) (b a:iP) (h:H) (i:jD):
 RK cx cf M g (⟨c,f,l,k,j,none⟩::d) b a h i=XK (fin cf h (ka f cx M ⟨b,a⟩ h)) cx cf M g c d b a i:=ahI g c f l k j d b a h _
@[simp]def fU (a:af Oper) (f:aa Tmp) (j:Op) (o:ab) (m:String) (l:af Edge) (g:Nat) (d:Bool) (i:List Oper) (c b:iP) (h:H) (k:jD):
 RK cx cf M a (⟨f,j,o,m,l,some (g,d)⟩::i) c b h k=GK (md a M ⟨c,b⟩ (some (g,d))) cx cf M a f j i c b h k:=Xd a f j o m l g d i c b h _
@[simp]theorem ai3 (g:T) (h:H) (c:af Oper) (b:List Oper) (f d:iP) (a:jD):XK (some (g,h)) cx cf M c none b f d a=RK cx cf M c b f d h a:=by unfold XK;rw[Dc];rfl
@[simp]def ai2 (g:T) (h:H) (d:af Oper) (a:Tmp) (c:List Oper) (i f:iP) (b:jD):XK (some (g,h)) cx cf M d (some a) c i f b=
 if(M>>>a)&&&1=1 then RK cx cf M d c (put i a g) f h b else RK cx cf M d c i (.cons a g f) h b:=by
 unfold XK;rw[Dc,KZ]
@[simp]def aje (i:af Oper) (d:aa Tmp) (g:Op) (f:List Oper) (b a:iP) (h:H) (c:jD):GK (some true) cx cf M i d g f b a h c=XK (fin cf h (ka g cx M ⟨b,a⟩ h)) cx cf M i d f b a c:=a9
@[simp]def ahO (g:af Oper) (c:Tmp) (i:Op) (f:List Oper) (b a:iP) (h:H) (d:jD):GK (some false) cx cf M g (some c) i f b a h d=if(M>>>c)&&&1=1 then RK cx cf M g f (put b c .undef) a h d else RK cx cf M g f b (.cons c .undef a) h d:=by show WD M (some c) .undef b a (λb a=>RK cx cf M g f b a h d)=_;rw[KZ]
def TP(cx:Ctx)(M:Nat)(b:List (Nat×Nat))(d:Nat)(c:List (Nat×H×H))(f:Op)(e:Env):Prop:=match f with
 | .store _ g _=>(match Z (iG cx M e g) fa with|some a=>oU b d a c|none=>True)
 |_=>True
def WK(b:List (Nat×Nat))(d:Nat)(c:List (Nat×H×H))(f:aa Nat):Prop:=match f with|some a=>oU b d a c|none=>True
def adw (a:List (Nat×Nat)) (c:Nat) (b:List (Nat×H×H)):WK a c b none=True:=a9
def adv (b:List (Nat×Nat)) (d:Nat) (c:List (Nat×H×H)) (a:Nat):WK b d c (some a)=oU b d a c:=a9
def F1 (a:List (Nat×Nat)) (c:Nat) (b:List (Nat×H×H)) (f:ab) (d g:ah) (e:Env):TP cx M a c b (.store f d g) e=WK a c b (Z (iG cx M e d) fa):=a9
def adK (b:List (Nat×Nat)) (d:Nat) (c:List (Nat×H×H)) (a:Call) (e:Env):TP cx M b d c (.call a) e=True:=a9
attribute [simp] adw adv F1 adK
def ZN(cx:Ctx)(cf:jU)(M:Nat)(j:af Oper)(c:List (Nat×Nat))(g:List Oper)(f:Nat)(i:List (Nat×Nat))(d:List (Nat×H×H))(a k:iP)(h:H)(b:jD):Prop:=Pt cx cf M j c g f i d a k h λa h=>b.n ⟨a,.nil⟩ h
def Xn(q:aa (T×H))(cx:Ctx)(cf:jU)(M:Nat)(o:af Oper)(f:List (Nat×Nat))(k:aa Tmp)(m:Op)(l:List Oper)(i:Nat)(d:List (Nat×Nat))(c:List (Nat×H×H))(b a:iP)(h:H)(j:jD):Prop:=
 WX q λp g=>DK cx M f i d c m ⟨b,a⟩ h g λd c=>WD M k p b a λb a=>ZN cx cf M o f l (i+1) d c b a g j
def XF(m:T)(cx:Ctx)(cf:jU)(M:Nat)(l:af Oper)(d:List (Nat×Nat))(f:aa Tmp)(j:List Oper)(i:Nat)(k:List (Nat×Nat))(g:List (Nat×H×H))(b a:iP)(h:H)(c:jD):Prop:=WD M f m b a λb a=>ZN cx cf M l d j i k g b a h c
def DLK(p:aa Nat)(m:T)(cx:Ctx)(cf:jU)(M:Nat)(k:af Oper)(b:List (Nat×Nat))(i:aa Tmp)(j:List Oper)(a:Nat)(d:List (Nat×Nat))(c:List (Nat×H×H))(o l:iP)(h:H)(f:jD):Prop:=match p with
 |none=>XF m cx cf M k b i j (a+1) d c o l h f
 |some g=>oU b a g c/\XF m cx cf M k b i j (a+1) (if nC b a=true then(a,g)::d else d) c o l h f
def ahW (l:T) (j:af Oper) (b:List (Nat×Nat)) (c:aa Tmp) (g:List Oper) (f:Nat) (i:List (Nat×Nat)) (d:List (Nat×H×H)) (m k:iP) (h:H) (a:jD):DLK none l cx cf M j b c g f i d m k h a=XF l cx cf M j b c g (f+1) i d m k h a:=a9
def Xo (c:Nat) (m:T) (k:af Oper) (b:List (Nat×Nat)) (i:aa Tmp) (j:List Oper) (a:Nat) (f:List (Nat×Nat)) (d:List (Nat×H×H)) (o l:iP) (h:H) (g:jD):DLK (some c) m cx cf M k b i j a f d o l h g=(oU b a c d/\XF m cx cf M k b i j (a+1) (if nC b a=true then(a,c)::f else f) d o l h g):=a9
def ahV (l:T) (i:af Oper) (b:List (Nat×Nat)) (f:List Oper) (d:Nat) (g:List (Nat×Nat)) (c:List (Nat×H×H)) (k j:iP) (h:H) (a:jD):XF l cx cf M i b none f d g c k j h a=ZN cx cf M i b f d g c k j h a:=a9
attribute [simp] ahW Xo ahV
@[simp]def ahU (l:T) (j:af Oper) (c:List (Nat×Nat)) (a:Tmp) (g:List Oper) (f:Nat) (i:List (Nat×Nat)) (d:List (Nat×H×H)) (m k:iP) (h:H) (b:jD):XF l cx cf M j c (some a) g f i d m k h b=
 if(M>>>a)&&&1=1 then ZN cx cf M j c g f i d (put m a l) k h b else ZN cx cf M j c g f i d m (.cons a l k) h b:=by unfold XF;rw[KZ]
@[simp]def ajl (i:af Oper) (c:List (Nat×Nat)) (f:Nat) (g:List (Nat×Nat)) (d:List (Nat×H×H)) (a j:iP) (h:H) (b:jD):ZN cx cf M i c [] f g d a j h b=b.n ⟨a,.nil⟩ h:=Ra i c f g d a j h _
@[simp]def akP (l:af Oper) (d:List (Nat×Nat)) (f:aa Tmp) (a:Op) (q:ab) (p:String) (o:af Edge) (j:List Oper) (i:Nat) (k:List (Nat×Nat)) (g:List (Nat×H×H)) (c b:iP) (h:H) (m:jD):
 ZN cx cf M l d (⟨f,a,q,p,o,none⟩::j) i k g c b h m=Xn (fin cf h (ka a cx M ⟨c,b⟩ h)) cx cf M l d f a j i k g c b h m:=adz l d f a q p o j i k g c b h _
def DEK(q:Bool)(p:T)(d:H)(cx:Ctx)(cf:jU)(M:Nat)(o:af Oper)(b:List (Nat×Nat))(k:aa Tmp)(m:Op)(l:List Oper)(a:Nat)(i:List (Nat×Nat))(c:List (Nat×H×H))(g f:iP)(h:H)(j:jD):Prop:=match q with
 |true=>(Ag b a h d i/\TP cx M b a c m ⟨g,f⟩)/\XF p cx cf M o b k l (a+1) i (if nC b a=true then(a,h,d)::c else c) g f d j
 |false=>DLK (jd cx M ⟨g,f⟩ h m) p cx cf M o b k l a i c g f d j
@[simp]def Xp (p:T) (d:H) (o:af Oper) (b:List (Nat×Nat)) (k:aa Tmp) (m:Op) (l:List Oper) (a:Nat) (f:List (Nat×Nat)) (c:List (Nat×H×H)) (i g:iP) (h:H) (j:jD):DEK true p d cx cf M o b k m l a f c i g h j=((Ag b a h d f/\TP cx M b a c m ⟨i,g⟩)/\XF p cx cf M o b k l (a+1) f (if nC b a=true then(a,h,d)::c else c) i g d j):=a9
@[simp]def Tl (p:T) (i:H) (o:af Oper) (d:List (Nat×Nat)) (f:aa Tmp) (m:Op) (k:List Oper) (j:Nat) (l:List (Nat×Nat)) (g:List (Nat×H×H)) (b a:iP) (h:H) (c:jD):DEK false p i cx cf M o d f m k j l g b a h c=DLK (jd cx M ⟨b,a⟩ h m) p cx cf M o d f k j l g b a i c:=a9
@[simp]theorem ahT (c:T) (q:H) (u:af Oper) (i:List (Nat×Nat)) (p:aa Tmp) (a:Op) (s:List Oper) (k:Nat) (t:List (Nat×Nat)) (j:List (Nat×H×H)) (d b:iP) (h:H) (o:jD):
 Xn (some (c,q)) cx cf M u i p a s k t j d b h o=DEK (jt a) c q cx cf M u i p a s k t j d b h o:=by
 unfold Xn;rw[Dc];unfold DK;cases hE:jt a with
 |true=>
  rw[ax rfl,Xp];have:(∀m f c g,a= .store m f c->Z (iG cx M ⟨d,b⟩ f) fa=D g->oU i k g j)↔TP cx M i k j a ⟨d,b⟩:=by
   constructor
   .intro l;cases a<;>first|exact trivial|skip
    rename_i m f c;rw[F1];rcases r:Z (iG cx M ⟨d,b⟩ f) fa with _|g
    simp;simp_all
   intro l m f c g v r;subst v;rw[F1,r]at l;exact l
  rw[this];rfl
 |false=>
  rw[aw V,Tl];cases jd cx M ⟨d,b⟩ h a<;>rfl
section
variable (e:Env)(h:H)
def aaP (a:ab) (c b:ah):jt (.store a c b)=true:=a9
def aaQ (b:ah) (a:af ah) (c:af ab):jt (.call ⟨.value b,a,c⟩)=true:=a9
def aaR (a:Builtin) (b:af ah) (c:af ab):jt (.call ⟨.builtin a,b,c⟩)=(match a with| .len| .min| .max=>false|_=>true):=a9
def acw (a:ah):jt (.move a)=false:=a9
def YK (a:ah):jt (.assign a)=false:=a9
def acx (a:ab) (b:ah):jt (.load a b)=false:=a9
def agI (a:ah):jt (.nilCheck a)=false:=a9
def agM (b:ab) (c:ah) (a:Nat):jt (.fieldAddr b c a)=false:=a9
def agL (a:ab) (b c:ah):jt (.indexAddr a b c)=false:=a9
def ad7 (a:BinOp) (b c:ab) (d f:ah):jt (.binOp a b d f c)=false:=a9
def aaT (a:ab):jt (.alloc a)=false:=a9
def aaS (b:ab) (a:af (Nat×ah)):jt (.build b a)=false:=a9
def agO (b:ab) (n:Nat) (a:af (Nat×ah)):jt (.buildSlice b n a)=false:=a9
def agJ (a:ab) (b c:ah):jt (.makeSlice a b c)=false:=a9
def agH (d:ab) (f:ah) (a b c:aa ah):jt (.slice d f a b c)=false:=a9
def agN (b:ah) (a:Nat):jt (.extract b a)=false:=a9
def agK (c:Fn) (a b:af ah):jt (.makeFunc c a b)=false:=a9
def aii (b:ab) (a:ah):jd cx M e h (.load b a)=Z (iG cx M e a) fa:=a9
def ald (b:ab) (a c:ah):jd cx M e h (.indexAddr b a c)=Z (iG cx M e a) fa:=a9
def ak9 (f:ab) (a:ah) (b c d:aa ah):jd cx M e h (.slice f a b c d)=Z (iG cx M e a) fa:=a9
def agD (a:ab):jd cx M e h (.alloc a)=D h.size:=a9
def alg (b:ab) (n:Nat) (a:af (Nat×ah)):jd cx M e h (.buildSlice b n a)=D h.size:=a9
def alb (a:ab) (b c:ah):jd cx M e h (.makeSlice a b c)=D h.size:=a9
def aih (a:ah):jd cx M e h (.move a)=none:=a9
def ad6 (a:ah):jd cx M e h (.assign a)=none:=a9
def ala (a:ah):jd cx M e h (.nilCheck a)=none:=a9
def ale (b:ab) (c:ah) (a:Nat):jd cx M e h (.fieldAddr b c a)=none:=a9
def ake (a:BinOp) (b c:ab) (d f:ah):jd cx M e h (.binOp a b d f c)=none:=a9
def agC (b:ab) (a:af (Nat×ah)):jd cx M e h (.build b a)=none:=a9
def alf (b:ah) (a:Nat):jd cx M e h (.extract b a)=none:=a9
def aij (a:Call):jd cx M e h (.call a)=none:=a9
def alc (c:Fn) (a b:af ah):jd cx M e h (.makeFunc c a b)=none:=a9
def aeo (a b c d:Nat):fa (.eZ a b c d)=D a:=a9
theorem En (a b f d:Nat) (c:Bool):fa (.arr a b f d c)=D a:=a9
def ads (a:List T) (b:Bool):fa (.em a b)=none:=a9
def adt (a:List T):fa (.kA a)=none:=a9
def aep (a:ak) (n:Int):fa (.int a n)=none:=a9
attribute [simp] aaP aaQ aaR acw YK acx agI agM agL ad7 aaT aaS agO agJ agH agN agK aii ald ak9 agD alg alb aih ad6 ala ale ake agC alf aij alc aeo En ads adt aep
end
variable {dl:DL}
def QK(cx:Ctx)(cf:jU)(M:Nat)(a:List Oper)(f:aa (List (Nat×Nat)))(c:iP)(h:H)(b:jD):Prop:=match f with
 |none=>RK cx cf M a.toArray a c .nil h b
 |some d=>ZN cx cf M a.toArray d a 0 [] [] c .nil h b
@[simp]def ajc (a:List Oper) (c:iP) (h:H) (b:jD):QK cx cf M a none c h b=RK cx cf M a.toArray a c .nil h b:=a9
@[simp]def aja (a:List Oper) (c:List (Nat×Nat)) (d:iP) (h:H) (b:jD):QK cx cf M a (some c) d h b=ZN cx cf M a.toArray c a 0 [] [] d .nil h b:=a9
def aa3(c:aa (Env×H))(d:jD):W (Z c λg=>two g λb a=>some (.normal,(⟨b.vars,.nil⟩:Env),a)) d=∃b a,c=D (b,a)/\d.n ⟨b.vars,.nil⟩ a:=by
 rcases c with _|f;apply propext;constructor<;>(first|(rintro⟨k,a,j,i,_⟩;simp_all)|simp);obtain⟨b,a⟩:=f;simp[fj,m6,HY,ay,aI]
 grind
@[simp]def akJ (id:Nat) (b:List Oper) (f:Bool) (c d:iP) (h:H) (a:jD):W (kw cx cf n M dl (.region id b.toArray f) ⟨c,d⟩ h) a=QK cx cf M b (dl.lookup id) c h a:=by
 show W (T0 cx cf M dl id b.toArray ⟨c,d⟩ h) a=_;unfold T0;rcases dl.lookup id with _|g
 exact aa3 _ a;exact aa3 _ a
@[simp]def akH (b c:Code) (e:Env) (h:H) (a:jD):W (kw cx cf n M dl (.seq b c) e h) a=W (kw cx cf n M dl b e h) (Kc (kw cx cf n M dl c) a):=ahC _ _ e h a
@[simp]def ahF (id:Nat) (b:Code) (e:Env) (h:H) (a:jD):W (kw cx cf n M dl (.block id b) e h) a=W (kw cx cf n M dl b e h) (vw id a):=ZB id _ e h a
def CK(d:aa T)(cx:Ctx)(cf:jU)(n M:Nat)(dl:DL)(b c:Code)(e:Env)(h:H)(a:jD):Prop:=V7 d (W (kw cx cf n M dl b e h) a) (W (kw cx cf n M dl c e h) a)
@[simp]def ij (d:Bool) (b c:Code) (e:Env) (h:H) (a:jD):CK (some (.ej d)) cx cf n M dl b c e h a=if d=true then W (kw cx cf n M dl b e h) a else W (kw cx cf n M dl c e h) a:=a9
@[simp]def ai7 (a:Nat) (f g:Code) (c b:iP) (h:H) (d:jD):W (kw cx cf n M dl (.cond (.tmp a) f g) ⟨c,b⟩ h) d=CK (if(M>>>a)&&&1=1 then Y c a else Y b a) cx cf n M dl f g ⟨c,b⟩ h d:=by
 rw[<-Fy];apply propext;unfold CK;show W (Z (Env.get M ⟨c,b⟩ a) λi=>_) d↔_;rcases Env.get M ⟨c,b⟩ a with _|i
 simp[Z,V7,W7];simp[fj];cases i<;>simp[V7,W7];rename_i j;cases j<;>simp
@[simp]theorem ai5 (b:Code) (e:Env) (h:H) (a:jD):W (kw cx cf n M dl (.loop b) e h) a=W (qQ (kw cx cf n M dl b) n e h) a:=rfl
@[simp]def ai4 (e:Env) (h:H) (a:jD):W (kw cx cf n M dl .skip e h) a=a.n e h:=HY e h a
@[simp]def ai6 (id:Nat) (e:Env) (h:H) (a:jD):W (kw cx cf n M dl (.exit id) e h) a=a.x id e h:=KX id e h a
@[simp]def akI (e:Env) (h:H) (a:jD):W (kw cx cf n M dl .ret e h) a=a.r e h:=ahD e h a
end
end
section
noncomputable section
variable {cx:Ctx}{cf:jU}{M:Nat}{e:Env}{h:H}
attribute [simp] VG ot kv H.mL
@[simp]def afT (c b:iP) (a:Nat):iG cx M ⟨c,b⟩ (.tmp a)=if(M>>>a)&&&1=1 then Y c a else Y b a:=Fy c b a
theorem afU (a:ak) (b:Int):iG cx M e (.const (.int a b))=D (.int a b):=rfl
theorem adU (a:Bool):iG cx M e (.const (.bool a))=D (.ej a):=rfl
theorem adT:iG cx M e (.const (.slice none 0 0))=D (.em [] false):=rfl
attribute [simp] afU adU adT
@[simp]theorem UD (b:ByteArray):iG cx M e (.const (.string b))=D (.str (b.data.toList.map UInt8.toNat)):=by
 show(Z (El b.data.toList) λa=>some (T.str a))=_;have:∀a:List UInt8,El a=D (a.map UInt8.toNat):=by
  intro a;induction a with
  |nil=>rfl
  |cons f a c=>
   show(Z (iZ f.toNat) λg=>Z (El a) λd=>some (g::d))=_;rw[c];simp
 rw[this];rfl
@[simp]theorem RS (a:aj):iG cx M e (.func a)=D (.func a []):=rfl
@[simp]theorem Lz (a:List ah):tM cx M e a=iK (iG cx M e) a:=rfl
def lr(a:Int):aa Nat:=if 0<=a then some a.toNat else none
@[simp]theorem adJ (b:ak) (a:Int):tq (.int b a)=lr a:=by
 unfold lr;cases a with
 |ofNat c=>rw[ax V];rfl
 |negSucc c=>rw[aw G];rfl
@[simp]theorem F0 (a:Nat):lr (a:Int)=D a:=by unfold lr;rw[ax G];rfl
@[simp]def abp (a:Nat):lr (no_index (OfNat.ofNat a):Int)=D a:=F0 a
def fO{a:Int}(h:0<=a):lr a=D a.toNat:=by unfold lr;rw[ax h]
@[simp]theorem aic (a:ah):ka (.move a) cx M e h=val h (iG cx M e a):=rfl
@[simp]theorem adV (a:ah):ka (.assign a) cx M e h=val h (iG cx M e a):=rfl
def py(a:aa T)(b c:aa ni):aa ni:=Z a λa=>match a with| .ej d=>if d=true then b else c|_=>none
@[simp]theorem fH (c:Bool) (a b:aa ni):py (some (.ej c)) a b=if c=true then a else b:=rfl
@[simp]def Yy (a b c:ah):ka (.pick a b c) cx M e h=py (iG cx M e a) (val h (iG cx M e b)) (val h (iG cx M e c)):=by
 show(Z (iG cx M e a) λa=>_)=_;unfold py;rcases iG cx M e a with _|f
 rfl;cases f<;>first|rfl|(rename_i d;cases d<;>rfl)
@[simp]theorem acy (a:Ty):AJ cx a=(match a.u with
 | .array _ b=>Option.casesOn (cx.ty b) false λd=>(match d.u with| .int c=>H9 c .u8|_=>false)
 |_=>false):=rfl
@[simp]def agp (b:ab):ka (.alloc b) cx M e h=Z (cx.ty b) λa=>if AJ cx a=true then be (.eZ h.size 0 0 0) (h.cons (ny 1 true a.zero)) else be (.eZ h.size 0 0 0) (h.cons (ny a.size true [a.kV])):=by
 show(Z (cx.ty b) λa=>_)=_;rcases cx.ty b with _|a
 rfl;simp only[fj];cases AJ cx a<;>simp
@[simp]theorem Sw (b:Nat) (c:Bool) (a:List T):ny b c a=⟨b,0,0,c,false,a⟩:=rfl
@[simp]def aj6 (d:ab) (b:ah):ka (.box d b) cx M e h=Z (iG cx M e b) λa=>iT a.iW (be (.eZ h.size 0 0 0) (h.cons ⟨a.cells.length,0,0,true,false,[a]⟩)):=by show(Z (iG cx M e b) λa=>iT a.iW (km (h.new (λc=> .eZ c 0 0 0) (ny (m7 a.cells) true [a]))))=_;simp
def By(cx:Ctx)(M:Nat)(e:Env):List (Nat×ah)->aa (List (Nat×T))
 | []=>some []
 |(b,d)::c=>Z (iG cx M e d) λa=>iT a.iW (Z (By cx M e c) λf=>some ((b,a)::f))
@[simp]theorem abQ:By cx M e []=D []:=rfl
@[simp]theorem Ly (a:Nat) (c:ah) (b:List (Nat×ah)):By cx M e ((a,c)::b)=Z (iG cx M e c) λd=>iT d.iW (Z (By cx M e b) λf=>some ((a,d)::f)):=rfl
def GD(a:List (Nat×ah)):partsOf cx M e a=By cx M e a:=by
 induction a with
 |nil=>rfl
 |cons i a g=>
  obtain⟨f,c⟩:=i;show(Z (Z (iG cx M e c) λb=>iT b.iW (some (f,b))) λk=>Z (partsOf cx M e a) λj=>some (k::j))=_;rw[g,Ly];rcases iG cx M e c with _|b;rfl;cases d:b.iW<;>simp[d]
def Hv(cx:Ctx)(c:List (Nat×ab)):List (Nat×T)->List T->aa (List T)
 | [],a=>some a
 |(g,d)::i,a=>Z (c[g]?) λb=>Z (cx.ty b.2) λj=>iT (decide (d.cells.length=j.size)) (Z (mJ a b.1 d.cells) λf=>Hv cx c i f)
@[simp]theorem aed (b:List (Nat×ab)) (a:List T):Hv cx b [] a=D a:=rfl
@[simp]theorem OR (a:List (Nat×ab)) (f:Nat) (b:T) (g:List (Nat×T)) (c:List T):Hv cx a ((f,b)::g) c=Z (a[f]?) λd=>Z (cx.ty d.2) λj=>iT (decide (b.cells.length=j.size)) (Z (mJ c d.1 b.cells) λi=>Hv cx a g i):=rfl
def Kt(g:List (Nat×ab)):∀(c:List (Nat×T)) (f:List T),oO (λb=>Z (oS g b) λa=>Z (cx.ty a.2) λd=>some (a.1,d.size)) c f=Hv cx g c f:=by
 intro c;induction c with
 |nil=>intro f;rfl
 |cons l c m=>
  intro f;obtain⟨b,j⟩:=l;show(Z (Z (oS g b) λa=>Z (cx.ty a.2) λd=>some (a.1,d.size)) λi=>iT (aq (m7 j.cells) i.2) (Z (mJ f i.1 j.cells) λk=>oO (λb=>Z (oS g b) λa=>Z (cx.ty a.2) λd=>some (a.1,d.size)) c k))=_;rw[OR,mV];rcases g[b]? with _|a
  rfl;simp[fj];rcases cx.ty a.2 with _|d
  rfl;simp_all
def Hy(b:Nat):List (Nat×T)->List T->aa (List T)
 | [],a=>some a
 |(f,c)::g,a=>iT (decide (c.cells.length=b)) (Z (mJ a (f*b) c.cells) λd=>Hy b g d)
@[simp]theorem aee (b:Nat) (a:List T):Hy b [] a=D a:=rfl
@[simp]theorem acQ (a d:Nat) (b:T) (f:List (Nat×T)) (c:List T):Hy a ((d,b)::f) c=iT (decide (b.cells.length=a)) (Z (mJ c (d*a) b.cells) λg=>Hy a f g):=rfl
def It(a:Nat):∀(b:List (Nat×T)) (c:List T),oO (λd=>some (Nat.mul d a,a)) b c=Hy a b c:=by
 intro b;induction b with
 |nil=>intro c;rfl
 |cons i b j=>
  intro c;obtain⟨d,f⟩:=i;show(iT (aq (m7 f.cells) a) (Z (mJ c (Nat.mul d a) f.cells) λg=>oO (λd=>some (Nat.mul d a,a)) b g))=_;simp_all
@[simp]def adM (c b:T) (a:List T):mJ (c::a) 0 [b]=D (b::a):=by rw[wY];simp
@[simp]def adL (f c d:T) (a b:List T):mJ (f::a) 0 (c::d::b)=Z (mJ a 0 (d::b)) λg=>some (c::g):=by rw[wY,wY];simp[aZ,dc,List.take_zero,cm];by_cases hl:b.length+1<=a.length;rw[ax G,ax G];simp;simp_all[aw]
@[simp]theorem afx (a:T) (b d:List T) (c:Nat):mJ (a::b) (c+1) d=Z (mJ b c d) λf=>some (a::f):=rfl
def Pj(cx:Ctx)(h:H)(b:Ty)(c:List (Nat×T)):aa ni:=match b.u with
 | .struct f=>Z (Hv cx f c b.zero) λa=>be (.eQ a) h
 | .array _ d=>Z (cx.ty d) λg=>Z (Hy g.size c b.zero) λa=>be (.eQ a) h
 |_=>none
@[simp]theorem aen (a:Ty) (c:List (Nat×T)):Pj cx h a c=(match a.u with
 | .struct f=>Z (Hv cx f c a.zero) λb=>be (.eQ b) h
 | .array _ d=>Z (cx.ty d) λg=>Z (Hy g.size c a.zero) λb=>be (.eQ b) h
 |_=>none):=rfl
@[simp]def ago (c:ab) (a:List (Nat×ah)):ka (.build c a.toArray) cx M e h=Z (cx.ty c) λb=>Z (By cx M e a) λa=>Pj cx h b a:=by show(Z (cx.ty c) λb=>Z (partsOf cx M e a) λa=>_)=_;rw[GD];congr 1;funext b;congr 1;funext a;unfold Pj;cases b.u<;>first|rfl|(simp only[Kt,It,B6])
def Ee(c:Nat):List (Nat×T)->List T->aa (List T)
 | [],a=>some a
 |(b,d)::f,a=>iT (decide (d.cells.length=c)) (iT (decide (b<a.length)) (Ee c f (a.set b d)))
@[simp]theorem acT (b:Nat) (a:List T):Ee b [] a=D a:=rfl
@[simp]theorem ML (c b:Nat) (d:T) (f:List (Nat×T)) (a:List T):Ee c ((b,d)::f) a=iT (decide (d.cells.length=c)) (iT (decide (b<a.length)) (Ee c f (a.set b d))):=rfl
def Ks(c:Nat):∀(b:List (Nat×T)) (a:List T),sK c b a=Ee c b a:=by
 intro b;induction b with
 |nil=>intro a;rfl
 |cons k b j=>
  intro a;obtain⟨d,f⟩:=k;show(iT (aq (m7 f.cells) c) (Z (lQ a d f) λg=>sK c b g))=_;simp[kG,C7,j,ML,mt];by_cases i:d<a.length<;>simp[i]
@[simp]def Xy (f:ab) (b:Nat) (c:List (Nat×ah)):ka (.buildSlice f b c.toArray) cx M e h=Z (cx.ty f) λd=>(match d.u with
 | .slice g=>Z (cx.ty g) λa=>Z (By cx M e c) λc=>iT (decide (1<=a.size))<|iT (decide (b*a.size<=65536)) (Z (Ee a.size c (ao b a.kV)) λi=>
  be (.arr h.size 0 0 b false) (h.cons ⟨a.size,0,0,true,false,i⟩))
 |_=>none):=by
 show(Z (cx.ty f) λd=>_)=_;congr 1;funext d;cases d.u<;>first|rfl|skip
 simp[K6,Sw,Zs,H.mL,sR,Ks,GD]
@[simp]theorem aid (b:ab) (a:ah):ka (.load b a) cx M e h=Z (cx.ty b) λc=>Z (iG cx M e a) λa=>val h (h.load c a):=rfl
def ldB(a:jI)(c d f:Nat)(g:Ty):aa T:=iT (decide (a.ep=c)) (if a.it=true then none else Z (a.gU[d]?) λe=>Z (kZ f e.cells) λb=>lj g b)
@[simp]def acs (l b m:Nat) (k f:Bool) (c:List T) (a d g:Nat) (i:Ty):ldB ⟨l,b,m,k,f,c⟩ a d g i=iT (decide (b=a)) (if f=true then none else Z (c[d]?) λe=>Z (kZ g e.cells) λj=>lj i j):=a9
@[simp]def acr (j:Ty) (b c f i:Nat):h.load j (.eZ b c f i)=Z (h.get b) λa=>ldB a c f i j:=by
 show(Z (Z (h.get b) λa=>jI.casesOn a λ_ d _ _ g l=>iT (aq d c) (Bool.casesOn g (oS l f) none)) λe=>Z (kZ i e.cells) λk=>lj j k)=_;rcases h.get b with _|a
 rfl;obtain⟨o,d,p,n,g,m⟩:=a;simp[fj,acs,C7,mV];cases decide (d=c)<;>cases g<;>simp
def Ld(h:H)(c:Nat)(a:jI)(f b g:Nat)(i:List T):aa H:=iT (decide (a.ep=f)) (if a.it=true then none else Z (a.gU[b]?) λe=>Z (ly e g i) λd=>some (fF h c ⟨a.sz,a.ep,a.ver+1,a.exact,false,a.gU.set b d⟩))
@[simp]def abs (d k a l:Nat) (g i:Bool) (b:List T) (f c j:Nat) (m:List T):Ld h d ⟨k,a,l,g,i,b⟩ f c j m=iT (decide (a=f)) (if i=true then none else Z (b[c]?) λe=>Z (ly e j m) λn=>some (fF h d ⟨k,a,l+1,g,false,b.set c n⟩)):=a9
def zx{a:Nat}{m:jI}(f:h.get a=D m)(d:jI):h.put a d=D (fF h a d):=by
 have:∃c,h.put a d=D c:=by
  obtain⟨b,g,i⟩:=h;rw[H.get_eq]at f
  dsimp at f
  by_cases k:a<b;rw[ax k]at f;have hl:b-1-a<i.length:=by
   grind
  show∃c,(iT (au a b) (Z (lQ i (Nat.sub (Nat.sub b 1) a) d) λj=> @Bool.rec (λ_=>aa H) (some ⟨b,g,j⟩) (some ⟨b,a,j⟩) (au a g)))=D c;rw[show au a b=true from aP▸k,iO,mt,ax G,fj];cases au a g<;>exact⟨_,rfl⟩
  grind
 obtain⟨c,l⟩:=this;unfold fF;rw[l];rfl
@[simp]theorem ah3 (l:Ty) (a i b g:Nat) (c:T):h.store l (.eZ a i b g) c=iT (decide (c.cells.length=l.size)) (Z (h.get a) λd=>Ld h a d i b g c.cells):=by
 show(iT (aq (m7 c.cells) l.size) (Z (h.get a) λd=>jI.casesOn d λo j p exact k n=>
  iT (aq j i) (@Bool.rec (λ_=>aa H) (Z (oS n b) λe=>Z (ly e g c.cells) λm=>Z (lQ n b m) λf=>
   Z (iZ (Nat.succ p)) λq=>h.put a ⟨o,j,q,exact,false,f⟩) none k)))=_
 simp[kG,C7];rcases t:h.get a with _|d
 rfl;obtain⟨o,j,p,r,k,f⟩:=d;simp[fj,abs];congr 1;congr 1;cases k;simp[df];rcases s:f[b]? with _|e
 rfl;simp[fj];rcases ly e g c.cells with _|m
 rfl;have u:b<f.length:=by
  grind
 simp_all[zx,mt,fj];rfl
@[simp]theorem agi (b:ab) (a d:ah):ka (.store b a d) cx M e h=Z (cx.ty b) λg=>Z (iG cx M e a) λa=>Z (iG cx M e d) λc=>iT c.iW (Z (h.store g a c) λf=>be .undef f):=rfl
def ncW(h:H)(a:T):aa ni:=match a with| .eZ .. | .kA _| .func .. =>be a h|_=>none
theorem aie (a b c d:Nat):ncW h (.eZ a b c d)=be (.eZ a b c d) h:=rfl
theorem aaM (a:ah):ka (.nilCheck a) cx M e h=Z (iG cx M e a) λb=>ncW h b:=rfl
def adY (d f:ah) (b:ak) (c:Int) (a:T):CE d f (.int b c) a=true:=a9
def adX (c d:ah) (b:List Nat) (a:T):CE c d (.str b) a=true:=a9
def acj (c d:ah) (b:Bool) (a:T):CE c d (.ej b) a=true:=a9
attribute [simp] aie aaM adY adX acj
@[simp]def aj5 (g j:ab) (c d:ah):ka (.binOp .eql g c d j) cx M e h=Z (cx.ty g) λi=>Z (iG cx M e c) λa=>Z (iG cx M e d) λb=>iT (CE c d a b) (Z (Nq cx i a b) λf=>be (.ej f) h):=by show(Z (cx.ty g) λi=>Z (iG cx M e c) λa=>Z (iG cx M e d) λb=>iT (CE c d a b) (Z (Nq cx i a b) λf=>val h (AY f)))=_;simp
@[simp]def ajT (g j:ab) (c d:ah):ka (.binOp .neq g c d j) cx M e h=Z (cx.ty g) λi=>Z (iG cx M e c) λa=>Z (iG cx M e d) λb=>iT (CE c d a b) (Z (Nq cx i a b) λf=>be (.ej !f) h):=by show(Z (cx.ty g) λi=>Z (iG cx M e c) λa=>Z (iG cx M e d) λb=>iT (CE c d a b) (Z (Nq cx i a b) λf=>val h (AY (!f))))=_;simp
@[simp]def aiB (d:Ty) (a:ak) (b c:Int) (f:d.u= .int a):Nq cx d (.int a b) (.int a c)=D (decide (b=c)):=by unfold Nq;rw[f];simp
@[simp]def aiA (c:Ty) (a b:List Nat) (d:c.u= .str):Nq cx c (.str a) (.str b)=D (decide (a=b)):=by unfold Nq;rw[d];simp
@[simp]def ahg (c:Ty) (a b:Bool) (d:c.u= .ej):Nq cx c (.ej a) (.ej b)=D (a==b):=by unfold Nq;rw[d];simp
def Ae(c:BinOp)(d f:aa T)(h:H):aa ni:=Z d λa=>Z f λb=>val h (binop c a b)
theorem agV (c:BinOp) (a b:T):Ae c (some a) (some b) h=val h (binop c a b):=rfl
theorem aj8 (c d:ab) (a b:ah):ka (.binOp .add c a b d) cx M e h=Ae .add (iG cx M e a) (iG cx M e b) h:=rfl
theorem ajQ (c d:ab) (a b:ah):ka (.binOp .sub c a b d) cx M e h=Ae .sub (iG cx M e a) (iG cx M e b) h:=rfl
theorem ajU (c d:ab) (a b:ah):ka (.binOp .mul c a b d) cx M e h=Ae .mul (iG cx M e a) (iG cx M e b) h:=rfl
theorem ajS (c d:ab) (a b:ah):ka (.binOp .quo c a b d) cx M e h=Ae .quo (iG cx M e a) (iG cx M e b) h:=rfl
theorem ajR (c d:ab) (a b:ah):ka (.binOp .rem c a b d) cx M e h=Ae .rem (iG cx M e a) (iG cx M e b) h:=rfl
theorem aj0 (c d:ab) (a b:ah):ka (.binOp .lss c a b d) cx M e h=Ae .lss (iG cx M e a) (iG cx M e b) h:=rfl
theorem aj1 (c d:ab) (a b:ah):ka (.binOp .leq c a b d) cx M e h=Ae .leq (iG cx M e a) (iG cx M e b) h:=rfl
theorem aj3 (c d:ab) (a b:ah):ka (.binOp .gtr c a b d) cx M e h=Ae .gtr (iG cx M e a) (iG cx M e b) h:=rfl
theorem aj4 (c d:ab) (a b:ah):ka (.binOp .geq c a b d) cx M e h=Ae .geq (iG cx M e a) (iG cx M e b) h:=rfl
theorem ak5 (a:UnOp) (d:ab) (b:ah):ka (.unOp a d b) cx M e h=Z (iG cx M e b) λc=>val h (unop a c):=rfl
theorem YB (c:ab) (a:ah) (b:Nat):ka (.fieldAddr c a b) cx M e h=Z (AL cx c b) λd=>Z (iG cx M e a) λa=>faV d.1 h a:=rfl
attribute [simp] agV aj8 ajQ ajU ajS ajR aj0 aj1 aj3 aj4 ak5 YB
@[simp]def acR (c:ab) (a:Nat):AL cx c a=Z (cx.ty c) λd=>(match d.u with| .struct b=>b[a]? |_=>none):=by show(Z (cx.ty c) λd=>match d.u with| .struct b=>oS b a|_=>none)=_;simp
def fdW(h:H)(off:Nat)(c:Ty)(d:T):aa ni:=match d with| .eQ a=>Z (kZ off a) λb=>val h (lj c b)|_=>none
@[simp]theorem aiy (off:Nat) (b:Ty) (a:List T):fdW h off b (.eQ a)=Z (kZ off a) λc=>val h (lj b c):=rfl
@[simp]theorem agl (d:ab) (a:ah) (b:Nat):ka (.field d a b) cx M e h=Z (AL cx d b) λc=>Z (cx.ty c.2) λf=>Z (iG cx M e a) λa=>fdW h c.1 f a:=rfl
def ixW(cx:Ctx)(h:H)(g:Ty)(d:T)(c:Nat):aa ni:=match g.u with
 | .slice a=>Z (cx.ty a) λb=>my h b d c
 | .array f a=>Z (cx.ty a) λb=>pB h f b d c
 |_=>none
@[simp]theorem akn (f:Ty) (d:T) (b:Nat):ixW cx h f d b=(match f.u with
 | .slice a=>Z (cx.ty a) λc=>my h c d b
 | .array g a=>Z (cx.ty a) λc=>pB h g c d b
 |_=>none):=rfl
@[simp]theorem YA (c:ab) (b a:ah):ka (.indexAddr c b a) cx M e h=Z (cx.ty c) λf=>Z (iG cx M e b) λb=>Z (iG cx M e a) λa=>Z (tq a) λd=>ixW cx h f b d:=rfl
@[simp]def aea (d:Ty) (b:List T) (f:Bool) (c:Nat):my h d (.em b f) c=Z (b[c]?) λa=>iT (decide (a.cells.length=d.size)) (be (.kA a.cells) h):=by show(Z (oS b c) λa=>iT (aq (m7 a.cells) d.size) (some (ni.val (.kA a.cells) h)))=_;simp
@[simp]def VO (i:Ty) (a c g f:Nat) (j:Bool) (d:Nat):my h i (.arr a c g f j) d=iT (decide (d<f)) (Z (h.get a) λb=>iT (decide (b.sz=i.size))<|iT (decide (b.ep=c)) (be (.eZ a c (g+d) 0) h)):=by show(iT (au d f) (Z (h.get a) λb=>iT (aq b.sz i.size)<|iT (aq b.ep c) (Z (iZ (Nat.add g d)) λk=>some (ni.val (.eZ a c k 0) h))))=_;simp
def icW(cx:Ctx)(h:H)(l:Ty)(c:T)(a:Nat):aa ni:=match l.u with
 | .str=>(match c with| .str k=>Z (k[a]?) λd=>be (.int .u8 d) h|_=>none)
 | .array i g=>(match c with
  | .eQ f=>Z (cx.ty g) λb=>iT (decide (a<i)) (Z (kZ (a*b.size) f) λj=>val h (lj b j))
  |_=>none)
 |_=>none
@[simp]theorem VP (d:Ty) (b:T) (a:Nat):icW cx h d b a=(match d.u with
 | .str=>(match b with| .str l=>Z (l[a]?) λf=>be (.int .u8 f) h|_=>none)
 | .array j i=>(match b with
  | .eQ g=>Z (cx.ty i) λc=>iT (decide (a<j)) (Z (kZ (a*c.size) g) λk=>val h (lj c k))
  |_=>none)
 |_=>none):=rfl
@[simp]theorem agk (d:ab) (a b:ah):ka (.index d a b) cx M e h=Z (cx.ty d) λf=>Z (iG cx M e a) λa=>Z (iG cx M e b) λb=>Z (tq b) λc=>icW cx h f a c:=by
 show(Z (cx.ty d) λf=>Z (iG cx M e a) λa=>Z (iG cx M e b) λb=>Z (tq b) λc=>match f.u with
  | .str=>(match a with| .str n=>Z (oS n c) λi=>val h (some (.int .u8 (.ofNat i)))|_=>none)
  | .array l k=>(match a with
   | .eQ j=>Z (cx.ty k) λg=>iT (au c l) (Z (kZ (Nat.mul c g.size) j) λm=>val h (lj g m))
   |_=>none)
  |_=>none)=_
 simp only[mV,Zr,B6];rfl
@[simp]theorem acg (b:ah) (a:Nat):ka (.extract b a) cx M e h=Z (iG cx M e b) λc=>exV h c a:=rfl
@[simp]def agn (b:aj) (a:List ah) (f:af ab):ka (.call ⟨.value (.func b),a.toArray,f⟩) cx M e h=Z (iK (iG cx M e) a) λc=>some (.call b c):=by
 show(Z (tM cx M e a) λa=>Z (some (T.func b [])) λg=>match g with
  | .func b d=>Z (Ep a d) λc=>some (ni.call b c)
  |_=>none)=_
 simp
def ahm(c:List T)(d:T):aa ni:=match d with| .func b a=>some (.call b (c++a))|_=>none
@[simp]theorem aeh (c:List T) (b:aj) (a:List T):ahm c (.func b a)=D (.call b (c++a)):=rfl
@[simp]theorem agm (c:Tmp) (a:List ah) (i:af ab):ka (.call ⟨.value (.tmp c),a.toArray,i⟩) cx M e h=Z (iK (iG cx M e) a) λb=>Z (iG cx M e (.tmp c)) λd=>ahm b d:=by
 show(Z (tM cx M e a) λa=>Z (iG cx M e (.tmp c)) λd=>match d with
  | .func g f=>Z (Ep a f) λb=>some (ni.call g b)
  |_=>none)=_
 simp[Lz,qt,fj];rfl
@[simp]theorem aj2 (a:List ah) (b:ab):ka (.call ⟨.builtin .len,a.toArray,#[b]⟩) cx M e h=Z (iK (iG cx M e) a) λc=>(match c with| [d]=>Td cx h [b] d|_=>none):=rfl
def Io(cx:Ctx)(h:H)(g:Ty)(a:T):aa ni:=match g.u with
 | .str=>(match a with| .str f=>be (.int .i64 f.length) h|_=>none)
 | .slice _=>(match a with
  | .em b _=>be (.int .i64 b.length) h
  | .jb=>be (.int .i64 0) h
  | .arr _ _ _ c _=>be (.int .i64 c) h
  |_=>none)
 | .array d _=>be (.int .i64 d) h
 |_=>none
def Fw(b:Ty)(a:T):Io cx h b a=(match b.u with
 | .str=>(match a with| .str g=>be (.int .i64 g.length) h|_=>none)
 | .slice _=>(match a with
  | .em c _=>be (.int .i64 c.length) h
  | .jb=>be (.int .i64 0) h
  | .arr _ _ _ d _=>be (.int .i64 d) h
  |_=>none)
 | .array f _=>be (.int .i64 f) h
 |_=>none):=rfl
@[simp]def agz (b:Ty) (a:List Nat) (c:b.u= .str):Io cx h b (.str a)=be (.int .i64 a.length) h:=by rw[Fw,c]
@[simp]def ad4 (b:Ty) (a:List T) (c:Bool) (f:ab) (d:b.u= .slice f):Io cx h b (.em a c)=be (.int .i64 a.length) h:=by rw[Fw,d]
@[simp]def ad3 (a:Ty) (c:ab) (b:a.u= .slice c):Io cx h a .jb=be (.int .i64 0) h:=by rw[Fw,b]
@[simp]def agA (b:Ty) (c d i a:Nat) (f:Bool) (j:ab) (g:b.u= .slice j):Io cx h b (.arr c d i a f)=be (.int .i64 a) h:=by rw[Fw,g]
@[simp]def ai0 (a:ab) (c:T):Td cx h [a] c=Z (cx.ty a) λb=>Io cx h b c:=by show(Z (oS [a] 0) λa=>Z (cx.ty a) λb=>_)=_;simp only[mV,List.getElem?_cons_zero,fj];congr 1;funext b;unfold Io;cases b.u<;>first|rfl|(cases c<;>first|rfl|(simp;try rfl))
@[simp]theorem ajX (a:List ah) (b:af ab):ka (.call ⟨.builtin .min,a.toArray,b⟩) cx M e h=Z (iK (iG cx M e) a) λc=>ng .min cx h b.toList c:=rfl
@[simp]theorem ajY (a:List ah) (b:af ab):ka (.call ⟨.builtin .max,a.toArray,b⟩) cx M e h=Z (iK (iG cx M e) a) λc=>ng .max cx h b.toList c:=rfl
@[simp]def aj9 (f:List ab) (a:ak) (b c:Int):ng .min cx h f [.int a b,.int a c]=be (.int a (min b c)) h:=by show val h (iT (H9 a a) (Br a (@Bool.rec (λ_=>Int) b c (Qm c b))))=_;rw[vy,iO,rn,AH];simp[B6,ay,ni.val.injEq,T.int.injEq,true_and,and_true];by_cases d:c<b;rw[bh d];grind;rw[aS d];grind
@[simp]def aka (f:List ab) (a:ak) (b c:Int):ng .max cx h f [.int a b,.int a c]=be (.int a (max b c)) h:=by show val h (iT (H9 a a) (Br a (@Bool.rec (λ_=>Int) b c (Qm b c))))=_;rw[vy,iO,rn,AH];simp[B6,ay,ni.val.injEq,T.int.injEq,true_and,and_true];by_cases d:b<c;rw[bh d];grind;rw[aS d];grind
end
end
section
abbrev hE:H:=⟨0,0,[]⟩
structure H6(P:ai)(cx:Ctx)(f:aj)(fn:Func)(M:Nat)(dl:DL):Prop where
 at_:P.funcs[f]? =D fn
 ok:A5 ⟨fn,M,false,none⟩
 dr:o8 dl (fn.body.getD .skip)
def oZ(a:iP):Nat->List T->Prop
 |_,[]=>True
 |i,b::c=>Y a i=D b/\oZ a (i+1) c
@[simp]theorem adI (b:iP) (a:Nat):oZ b a []=True:=rfl
@[simp]theorem aa6 (b:iP) (a:Nat) (c:T) (d:List T):oZ b a (c::d)=(Y b a=D c/\oZ b (a+1) d):=rfl
def oM(M:Nat):∀(d a:Nat) (f:List T),f.length<=d->∃b,oJ M d a f=D b/\(∀c,c<a->Y b c=none)/\oZ b a f:=by
 intro d;induction d with
 |zero=>
  intro a f hl;have:f=[]:=bw G;subst this;exact⟨.nil,rfl,λ_ _=>rfl,trivial⟩
 |succ d q=>
  intro a f hl;have s:∀(e:List T) (b:iP) (c:Nat) (l:T) (g:Nat),c<g->oZ b g e->oZ (.cons c l b) g e:=by
   intro e;induction e with
   |nil=>simp
   |cons k e r=>
    intro b c l g t o;exact⟨by rw[ot,aw G];exact o.1,r b c l (g+1) G o.2⟩
  rcases f with _|⟨k,e⟩;have⟨b,i,m,n⟩:=q (a+1) [] V;show∃b,(Z (iZ (Nat.succ a)) λj=> @Bool.rec (λ_=>aa iP) (oJ M d j []) (Z (oJ M d j []) λh=>some (.cons a .undef h)) (lL M a))=D b/\_;rw[jv,fj];cases lL M a;exact⟨b,i,λc p=>m c G,trivial⟩;refine⟨.cons a .undef b,?_,λc p=>?_,trivial⟩;show(Z (oJ M d (a+1) []) λh=>some (iP.cons a .undef h))=_;rw[i];rfl;rw[ot,aw G];grind;have⟨b,i,m,n⟩:=q (a+1) e c5;refine⟨.cons a k b,?_,λc p=>?_,?_,s _ _ _ _ _ G n⟩;show(Z (iZ (Nat.succ a)) λj=>Z (oJ M d j e) λh=>some (iP.cons a k h))=_;rw[jv,fj,i];rfl;rw[ot,aw G];grind;simp
def Er(cx:Ctx)(M:Nat)(d:List ResultVar)(e:iP)(b:H)(c:List T->Prop):Prop:=∃a,pq cx M ⟨e,.nil⟩ b d=D a/\c a
section
variable {P:ai}{cx:Ctx}{cf:jU}{M:Nat}
@[simp]def ahH (e:iP) (c:H) (b:List T->Prop):Er cx M [] e c b=b []:=by
 apply propext;constructor;rintro⟨d,hl,a⟩;have hl:some []=D d:=hl
 grind
 exact λa=>⟨[],rfl,a⟩
def WV(c:aa T)(b:T->Prop):Prop:=∃a,c=D a/\b a
@[simp]def ai8 (b:T) (d:T->Prop):WV (some b) d=d b:=by apply propext;constructor;rintro⟨e,c,a⟩;cases c;exact a;exact λa=>⟨b,rfl,a⟩
def Jv(e:ResultVar)(f:List ResultVar)(a:iP)(b:H)(d:List T->Prop):Er cx M (e::f) a b d=
 WV (ResultVar.casesOn e (λc=>Env.get M ⟨a,.nil⟩ c) (λg c=>Z (Env.get M ⟨a,.nil⟩ g) λi=>Z (cx.ty c) λj=>b.load j i)) λk=>Er cx M f a b λh=>d (k::h):=by
 grind [pq,WV,Er,kv,ay,ed,fj]
@[simp]def ahG (e:Tmp) (d:List ResultVar) (a:iP) (b:H) (c:List T->Prop):Er cx M (.tmp e::d) a b c=WV (Env.get M ⟨a,.nil⟩ e) λg=>Er cx M d a b λf=>c (g::f):=Jv _ d a b c
@[simp]def aeu (e:Tmp) (f:ab) (d:List ResultVar) (b:iP) (a:H) (c:List T->Prop):Er cx M (.cell e f::d) b a c=WV (Z (Env.get M ⟨b,.nil⟩ e) λh=>Z (cx.ty f) λi=>a.load i h) λj=>Er cx M d b a λg=>c (j::g):=Jv _ d b a c
def CJ(cx:Ctx)(M:Nat)(e:List ResultVar)(d:List T->H->Prop):jD:=
 ⟨λb a=>Er cx M e b.vars a λc=>d c a,λ_ _ _=>False,λb a=>Er cx M e b.vars a λc=>d c a⟩
theorem akm (d:List ResultVar) (c:List T->H->Prop) (b:Env) (a:H):(CJ cx M d c).n b a=Er cx M d b.vars a λe=>c e a:=rfl
theorem akl (d:List ResultVar) (c:List T->H->Prop) (b:Env) (a:H):(CJ cx M d c).r b a=Er cx M d b.vars a λe=>c e a:=rfl
theorem akk (e:List ResultVar) (d:List T->H->Prop) (c:Nat) (a:Env) (b:H):(CJ cx M e d).x c a b=False:=rfl
attribute [simp] akm akl akk
def HX{g:Out}{h:List ResultVar}{f:List T->H->Prop}(i:W g (CJ cx M h f)):∃c b a,g=D (c,b,a)/\(c= .normal\/c= .ret)/\Er cx M h b.vars a λj=>f j a:=by
 obtain⟨c,b,a,d,e⟩:=i;cases c with
 |normal=>exact⟨_,b,a,d,.inl rfl,e⟩
 |exit k=>simp_all
 |ret=>exact⟨_,b,a,d,.inr rfl,e⟩
def rh{i:List ResultVar}{a:Env}{f:H}{j:List T}(hl:pq cx M ⟨a.vars,.nil⟩ f i=D j):pq cx M a f i=D j:=by
 unfold pq at*
 induction i generalizing j with
 |nil=>exact hl
 |cons l i r=>
  rw[kv]at hl|-;have⟨d,g,hl⟩:=ed.1 hl;have⟨s,p,hl⟩:=ed.1 hl;cases hl;have m:∀k d,Env.get M ⟨a.vars,.nil⟩ k=D d->Env.get M a k=D d:=by
   intro k d o;obtain⟨u,t⟩:=a;rw[Fy]at o|-;simp_all[I6]
  have q:(@ResultVar.rec (λ_=>aa T) (λc=>Env.get M a c) (λe c=>Z (Env.get M a e) λb=>Z (cx.ty c) λh=>f.load h b) l)=D d:=by
   cases l with
   |tmp c=>grind
   |cell e c=>
    have g:(Z (Env.get M ⟨a.vars,.nil⟩ e) λb=>Z (cx.ty c) λh=>f.load h b)=D d:=g;have⟨b,n,g⟩:=ed.1 g;show(Z (Env.get M a e) λb=>Z (cx.ty c) λh=>f.load h b)=D d;rw[m e b n];exact g
  grind
end
def Xa{l:Env->H->Out}(e:Nat)(g:Nat->iP->H->Prop){k:jD}
 (p:∀a d b,a<=e->g a d b->W (l ⟨d,.nil⟩ b) (BE (λc b=>c.tmps= .nil/\a<e/\g (a+1) c.vars b) k)) {j:Nat} (r:e<j) {a:Nat} (i:a<=e) {d:iP} {b:H} (h:g a d b):W (qQ l j ⟨d,.nil⟩ b) k:=by
 refine KW (σ:=Nat) (I:=λa c b=>a<=e/\c.tmps= .nil/\g a c.vars b) (m:=λa=>e-a) ?_ j a _ _ G ⟨i,rfl,h⟩;rintro a ⟨d,t⟩ b ⟨i,ht,h⟩
 dsimp at ht h
 subst ht;have⟨n,c,o,q,f⟩:=p a d b i h;refine⟨n,c,o,q,?_⟩;cases n with
 |normal=>exact⟨a+1,iH f.2.1,iH f.2.1,f.1,f.2.2⟩
 |exit s=>exact f
 |ret=>exact f
@[simp]def alo:Hp hE=True:=by simp[Hp]
@[simp]def ahN (b:H) (c:jI):Hp (b.cons c)=Hp b:=by apply propext;constructor;intro a;unfold Hp at*;simp[H.cons]at a;exact a;exact λa=>ZK a c
end
section
mutual
def cn:T->T
 | .em b c=>(match b with| []=> .jb|e::b=> .em (cnL (e::b)) false)
 | .eQ a=> .eQ (cnL a)
 | .tuple a=> .tuple (cnL a)
 |v=>v
def cnL:List T->List T
 | []=>[]
 |x::a=>cn x::cnL a
end
def KG:∀a:List T,cnL a=a.map cn
 | []=>by rw[cnL];rfl
 |x::b=>by rw[cnL,KG b];rfl
def pS(a:List T)(b:Bool):cn (.em a b)=sl (a.map cn):=by rcases a with _|⟨c,a⟩;rw[cn];rfl;rw[cn,KG];rfl
def yq(a:List T):cn (.eQ a)= .eQ (a.map cn):=by rw[cn,KG]
def xO(a:List T):cn (.tuple a)= .tuple (a.map cn):=by rw[cn,KG]
@[simp]def Wb:cn .undef= .undef:=by simp[cn]
@[simp]def QS (a:Bool):cn (.ej a)=(.ej a):=by simp[cn]
@[simp]def KF (a:ak) (b:Int):cn (.int a b)=(.int a b):=by simp[cn]
@[simp]def KE (a:List Nat):cn (.str a)=(.str a):=by simp[cn]
@[simp]def QP:cn .mf= .mf:=by simp[cn]
@[simp]def ada (a b c d:Nat):cn (.eZ a b c d)=(.eZ a b c d):=by simp[cn]
@[simp]def QN (a:List T):cn (.kA a)=(.kA a):=by simp[cn]
@[simp]def MR:cn .jb= .jb:=by simp[cn]
@[simp]def adc (a b e d:Nat) (c:Bool):cn (.arr a b e d c)=(.arr a b e d c):=by simp[cn]
@[simp]def Zh (b:aj) (a:List T):cn (.func b a)=(.func b a):=by simp[cn]
@[simp]def QR:cn .mw= .mw:=by simp[cn]
@[simp]def QQ:cn .mH= .mH:=by simp[cn]
@[simp]def Wd (a:ab) (b:T):cn (.iface a b)=(.iface a b):=by simp[cn]
@[simp]def Zg (a:Nat):cn (.iter a)=(.iter a):=by simp[cn]
@[simp]def adb (a:Nat):cn (.map a)=(.map a):=by simp[cn]
@[simp]def Zf:cn .pz= .pz:=by simp[cn]
def Jk(a:T):(cn a).scalar=a.scalar:=by
 cases a with
 |em c d=>rw[pS];cases c<;>rfl
 |eQ b=>rw[yq];rfl
 |tuple b=>rw[xO];rfl
 |_=>simp
theorem MT(a:T):(cn a).cells=a.cells.map cn:=by
 cases a with
 |em c d=>rw[pS];cases c<;>(show [_]=[_];rw[pS])
 |eQ b=>rw[yq];rfl
 |tuple b=>rw[xO];show [_]=[_];rw[xO]
 |_=>simp[T.cells]
def Zi(a:List T):ir (a.map cn)=(ir a).map cn:=by
 induction a with
 |nil=>rfl
 |cons b a c=>
  grind [ir,MT]
def mc.cn{a:T}(b:mc a):mc (cn a):=by
 induction b with
 |em d l _ g=>
  rw[pS];rcases d with _|⟨k,d⟩
  exact .jb;exact .em _ _ (λa f=>by
   grind)
 |eQ c _ g=>
  rw[yq];exact .eQ _ (λa f=>by
   grind)
 |kA c b=>rw[QN];exact .kA c b
 |ej e=>rw[QS];exact .ej e
 |int h i=>rw[KF];exact .int h i
 |str j=>rw[KE];exact .str j
 |mf=>rw[QP];exact .mf
 |jb=>rw[MR];exact .jb
 |mw=>rw[QR];exact .mw
 |mH=>rw[QQ];exact .mH
def iu.cn{hp:af Obj}{μ:Mu}{b:T}{o:am}(a:iu hp μ b o):iu hp μ (cn b) o:=by
 induction a with
 |qf u c=>rw[pS];exact .jb c 0
 |em i j u r off s Q arr n fz x w hl R S h l hr m=>
  rw[pS];show iu hp μ (.em (Go.TI.cn i::j.map Go.TI.cn) false) _;have B:ir (Go.TI.cn i::j.map Go.TI.cn)=(ir (i::j)).map Go.TI.cn:=Zi (i::j);have:=iu.em (hp:=hp) (μ:=μ) (Go.TI.cn i) (j.map Go.TI.cn) false r off s Q arr n fz x w c5 V (λb e=>?_) ?_ ?_ ?_
  grind
  have e:b∈(i::j).map Go.TI.cn:=e;obtain⟨q,p,rfl⟩:=List.mem_map.1 e;rw[MT,aK];grind;rw[B,aK];exact h;intro b e;rw[B]at e;obtain⟨q,p,rfl⟩:=List.mem_map.1 e;exact⟨by rw[Jk];exact(l q p).1,(l q p).2.cn⟩
  grind
 |eQ A k h l hr m=>
  rw[yq];refine .eQ _ k c5 (λb e=>?_) λz b C=>?_;obtain⟨q,p,rfl⟩:=List.mem_map.1 e;rw[Jk];grind
  grind
 |tuple U k h hr m=>
  rw[xO];refine .tuple _ k c5 λz b C=>?_;rw[br]at C
  grind
 |kA A r off arr n fz x w h l hr m=>rw[QN];exact .kA A r off arr n fz x w h l hr
 |undef=>rw[Wb];exact .undef
 |ej d=>rw[QS];exact .ej d
 |int z M=>rw[KF];exact .int z M
 |str O a=>rw[KE];exact .str O a
 |mf=>rw[QP];exact .mf
 |eZ d t y K f c g v I=>rw[ada];exact .eZ d t y K f c g v I
 |jb c s=>rw[MR];exact .jb c s
 |arr d t N L u f c F g v hl a=>rw[adc];exact .arr d t N L u f c F g v hl a
 |func H E k h hr m=>rw[Zh];exact .func H E k h hr
 |mw=>rw[QR];exact .mw
 |mH=>rw[QQ];exact .mH
 |iface n b o a m=>rw[Wd];exact .iface n b o a
 |iter d f c g a=>rw[Zg];exact .iter d f c g a
 |map d f y g a=>rw[adb];exact .map d f y g a
 |pz=>rw[Zf];exact .pz
def jc.cn{f:af Obj}{h:Mu}{c:List T}{d:List am}(e:jc f h c d):jc f h (c.map Go.TI.cn) d:=by
 refine⟨iD e.1,λg j a=>?_⟩;rw[br]at a;rcases b:c[g]? with _|i
 rw[b]at a;grind;rw[b]at a;simp at a;subst a;exact(e.2 g i b).cn
mutual
def nq:T->Bool
 | .ej _| .int _ _| .str _| .mf| .mw| .mH| .pz| .jb=>true
 | .eQ a=>rD a
 | .tuple a=>rD a
 |_=>false
def rD:List T->Bool
 | []=>true
 |x::a=>nq x&&rD a
end
def EI{a:List T}(c:rD a):∀b∈a,nq b=true:=by
 induction a with
 |nil=>simp
 |cons f a e=>
  intro b d;rw[rD,aC]at c
  grind
def iu.plain{n o:af Obj}{r s:Mu}{a:T}{i:am}(f:iu n r a i)(c:nq a):iu o s a i:=by
 induction f with
 |ej k=>exact .ej k
 |int d p=>exact .int d p
 |str q f=>exact .str q f
 |mf=>exact .mf
 |mw=>exact .mw
 |mH=>exact .mH
 |pz=>exact .pz
 |jb j l=>exact .jb j l
 |eQ t e g m hr h=>
  rw[nq]at c;exact .eQ _ e g m λd a b=>h d a b (EI c a (aD b))
 |tuple u e g hr h=>
  rw[nq]at c;exact .tuple _ e g λd a b=>h d a b (EI c a (aD b))
 |_=>simp[nq]at c
section
variable {P:ai}{cx:Ctx}
def Tk{b:Mu}{a:Nat}:pV (oK 0 b) a↔b.qy a:=by constructor;rintro(⟨e,d,c,_⟩|hr);exact absurd (lH c).1 G;exact hr;exact λhr=> .inr hr
def RL{z:aj}{o k:List T}{w:T}{s:H}(I:mT P cx z (k.map cn) w)(u:iK (lV s 0) o=D k)(hr:nq w):sO P cx ⟨z,o,s,w,s⟩:=by
 intro ae d f x b B;have F:jc d.heap (oK 0 f) k x.toList:=by
  have A:jr (λj X=>∀p,iu d.heap f j p->iu d.heap (oK 0 f) X p) o k:=jr.map (λn m y R p K=>uk b K R) u;refine⟨A.length▸B.1,λS j M=>?_⟩;have⟨n,m,u⟩:=A.get M;exact u _ (B.2 S n m)
 have W:St cx d.heap.size d.heap (oK 0 f) hE:=by
  refine⟨rfl,az _,λh e c=>absurd (lH c).1 G,λh Z e Y c=>absurd (lH c).1 G,λh e c=>absurd (lH c).1 G,λh e c=>absurd (lH c).1 G,λa hr=>b.uv a hr,λr q v=>?_⟩;have:=b.CO r q v;refine this.cut ?_;have⟨_,_,_,_,_,_,_,_,_,O,_⟩:=this.nS;exact .kA _ λj Q=>(O j Q).2.low 0
 refine(I d.heap.size d (oK 0 f) x hE W F.cn).mono λj E ⟨⟨av,U,al,g,an⟩,ap⟩=>?_;have C:∀a,a<d.heap.size->¬f.qy a->E.heap[a]? =d.heap[a]? :=λa i l=>(g.ext.qd a i λL=>l (Tk.1 L)).1;have t:Ext d.heap f E.heap f:=by
  refine⟨g.ext.size,λa i l=>⟨C a i λhr=>l (.inr hr),l⟩,λh e c=>⟨e,c,.inl rfl⟩,rfl,λa i hr=>g.ext.kept a i hr⟩
 refine⟨⟨f,U.plain hr,⟨b.wf,aU b.fit g.ext.size,λh e c=>?_,b.inj,b.low,b.apart,λa hr=>bO (b.uv a hr) g.ext.size,λr q v=>(b.CO r q v).ext t⟩,⟨t,g.os,g.tape,g.output⟩,BX.refl _ _⟩,mY.refl b.wf⟩;have⟨n,m,N⟩:=b.box h e c;exact⟨n,m,N.ext t (C e.jR (b.lt c) (b.apart h e c))⟩
def RJ{c:aj}{b:List T}{d:T}{a:H}(h:mT P cx c (b.map cn) d):sO P cx ⟨c,b,a,d,a⟩:=
 λe j k f i g=>h e j k f a i g.cn
structure iE where
 α:Type
 A:α->List T
 pre:α->Prop
 R:α->T
 inj:∀a b,A a=A b->R a=R b
structure mU where
 pre:List T->H->Prop
 post:List T->H->T->H->Prop
structure ik where
 p:aj->aa iE
 h:aj->aa mU
open Classical in
def rl(P:ai)(cx:Ctx)(f:ik)(d:aj)(c:List T):aa T:=match f.p d with
 |none=>none
 |some a=>if e:∃b,a.pre b/\a.A b=c/\mT P cx d c (a.R b)then some (a.R e.choose)else none
open Classical in
def hl(P:ai)(cx:Ctx)(g:ik)(c:aj)(b:List T)(d:H):aa (T×H):=match g.h c with
 |none=>none
 |some e=>if f:∃a:T×H,e.post b d a.1 a.2/\sO P cx ⟨c,b,d,a.1,a.2⟩then some f.choose else none
def AT(h:H)(d:Nat)(v:T):aa T:=Z (freeze h 0 d v) λv=>some (cn v)
def fz(b:H)(a:T):aa T:=Z (jA b 0 a) λa=>some (cn a)
def qY(b:H)(a:T):aa T:=Z (lV b 0 a) λa=>some (cn a)
def WN(b:H)(a:List T):aa (List T):=iK (qY b) a
mutual
def kT:T->Bool
 | .ej _| .int _ _| .str _| .mf| .em _ _| .jb| .mw| .mH=>true
 | .eQ a=>rg a
 |_=>false
def rg:List T->Bool
 | []=>true
 |x::a=>kT x&&rg a
end
def rY(P:ai)(cx:Ctx)(d:ik):jU:=λc a b=>match WN b a with
 |none=>hl P cx d c a b
 |some f=>match rl P cx d c f with
  |none=>hl P cx d c a b
  |some e=>if(nq e||rg a)=true then some (e,b)else hl P cx d c a b
def vq{f g j:Type}(b:f->aa g)(d:g->j):∀a:List f,iK (λc=>Z (b c) λe=>some (d e)) a=Z (iK b a) λi=>some (i.map d):=by
 intro a;induction a with
 |nil=>rfl
 |cons c a h=>
  rw[kv,kv,h];rcases b c with _|e
  rfl;simp[fj];cases iK b a<;>rfl
def M9{c:H}{a b:List T}(d:WN c a=D b):∃e,iK (lV c 0) a=D e/\b=e.map cn:=by
 unfold WN qY at d;rw[vq]at d
 grind [ed,hl,ay]
mutual
def wC(e:H)(g d:Nat):(b:T)->kT b->(∀c,b≠ .eQ c)->freeze e g (d+1) b=D b
 | .ej _,_,_=>rfl
 | .int _ _,_,_=>rfl
 | .str _,_,_=>rfl
 | .mf,_,_=>rfl
 | .em _ _,_,_=>rfl
 | .jb,_,_=>rfl
 | .mw,_,_=>rfl
 | .mH,_,_=>rfl
 | .eQ c,_,f=>absurd rfl (f c)
 | .undef,a,_=>by grind [kT]
 | .eZ ..,a,_=>by grind [kT]
 | .kA _,a,_=>by grind [kT]
 | .arr ..,a,_=>by grind [kT]
 | .func ..,a,_=>by grind [kT]
 | .iface ..,a,_=>by grind [kT]
 | .iter _,a,_=>by grind [kT]
 | .map _,a,_=>by grind [kT]
 | .pz,a,_=>by grind [kT]
 | .tuple _,a,_=>by grind [kT]
end
def um(b:H){a:T}(e:kT a)(d:∀c,a≠ .eQ c):jA b 0 a=D a:=by have:=wC b 0 11 a e d;cases a<;>first|exact this|rfl
def F5{a:List T}(c:rg a):∀b∈a,kT b=true:=by
 induction a with
 |nil=>simp
 |cons f a e=>
  intro b d;rw[rg,aC]at c
  grind
def WM{b:H}{a d:List T}{base:Nat}{o:af Obj}{t:Mu}{j:List am}(m:jc o t a j)(p:rg a)(n:WN b a=D d):d=a.map cn:=by
 obtain⟨v,hl,rfl⟩:=M9 n;have:iK (lV b 0) a=D a:=by
  refine ww λh e=>?_;have f:=F5 p h e;have⟨w,r⟩:=m.mem e;cases h with
  |eQ l=>
   show(Z (iK (jA b 0) l) λs=>some (T.eQ s))=_;obtain⟨u,rfl,_,q⟩:=r.s7;rw[ww λi g=>um b (F5 (by rw[kT]at f;omega) i g) (λk c=>by have:=q i g;rw[c]at this;grind [T.scalar])];rfl
  |_=>exact um b f V
 rw[this]at hl;simp[ay]at hl;rw[hl]
def Ll{e:ik}{c:aj}{b:List T}{d:T}(a:rl P cx e c b=D d):mT P cx c b d:=by
 unfold rl at a;split at a
 grind
 split at a
 grind
 grind
def Hg{h:ik}{c:aj}{b:List T}{d e:H}{f:T}(a:hl P cx h c b d=D (f,e)):sO P cx ⟨c,b,d,f,e⟩:=by
 unfold hl at a;split at a
 grind
 split at a;rename_i g;simp[ay]at a;have:=g.choose_spec.2;rw[a]at this;omega
 grind
def HJ(P:ai)(cx:Ctx)(j:ik):p9 P cx (rY P cx j):=by
 intro m k n q o a base f g d e b;unfold rY at a;split at a;exact Hg a base f g d e b;rename_i l h;split at a;exact Hg a base f g d e b;rename_i r hr;split at a;rename_i c;simp[ay,aI]at a;obtain⟨rfl,rfl⟩:=a;rw[cj]at c;rcases c with c|c
 obtain⟨p,hl,rfl⟩:=M9 h;exact RL (Ll hr) hl c base f g d e b;have i:=WM (base:=base) b c h;subst i;exact RJ (Ll hr) base f g d e b;exact Hg a base f g d e b
def iE.Ok(P:ai)(cx:Ctx)(c:aj)(b:iE):Prop:=∀a,b.pre a->mT P cx c (b.A a) (b.R a)
def iF{g:ik}{c:aj}{a:iE}(ht:g.p c=D a)(h:a.Ok P cx c)(b:a.α)(e:a.pre b):rl P cx g c (a.A b)=D (a.R b):=by have f:∃d,a.pre d/\a.A d=a.A b/\mT P cx c (a.A b) (a.R d):=⟨b,e,rfl,h b e⟩;unfold rl;rw[ht];simp only;rw[dif_pos f,a.inj _ _ f.choose_spec.2.1]
def mU.Ok(P:ai)(cx:Ctx)(f:aj)(c:mU):Prop:=∀a b,c.pre a b->∃e d,c.post a b e d/\sO P cx ⟨f,a,b,e,d⟩
def Ja{tb:ik}{d:aj}{c:mU}(ht:tb.h d=D c)(l:c.Ok P cx d){a:List T}{b:H}(m:c.pre a b):∃i e,hl P cx tb d a b=D (i,e)/\c.post a b i e:=by have⟨i,e,j,k⟩:=l a b m;have f:∃g:T×H,c.post a b g.1 g.2/\sO P cx ⟨d,a,b,g.1,g.2⟩:=⟨(i,e),j,k⟩;refine⟨f.choose.1,f.choose.2,?_,f.choose_spec.1⟩;unfold hl;rw[ht];simp only;rw[dif_pos f]
theorem Fk{b:ik}{a:aj}(ht:b.p a=none)(c:List T):rl P cx b a c=none:=by unfold rl;rw[ht]
def cfV(e:aa T)(c:Bool)(d:H)(a:aa (T×H)):aa (T×H):=match e with
 |none=>a
 |some b=>if(nq b||c)=true then some (b,d)else a
@[simp]def ahn (b:Bool) (c:H) (a:aa (T×H)):cfV none b c a=a:=a9
@[simp]def Wh (a:T) (b:Bool) (c:H) (d:aa (T×H)):cfV (some a) b c d=if(nq a||b)=true then some (a,c)else d:=a9
def cfW(P:ai)(cx:Ctx)(e:ik)(c:aj)(a:List T)(d:H)(b:aa (List T)):aa (T×H):=match b with
 |none=>hl P cx e c a d
 |some b=>cfV (rl P cx e c b) (rg a) d (hl P cx e c a d)
@[simp]def Wg (d:ik) (b:aj) (a:List T) (c:H):cfW P cx d b a c none=hl P cx d b a c:=a9
@[simp]def Wf (d:ik) (b:aj) (a e:List T) (c:H):cfW P cx d b a c (some e)=cfV (rl P cx d b e) (rg a) c (hl P cx d b a c):=a9
def Wi(d:ik)(c:aj)(a:List T)(b:H):rY P cx d c a b=cfW P cx d c a b (WN b a):=by
 unfold rY cfW cfV;rcases WN b a with _|e
 rfl;rfl
end
end
section
section
variable {cx:Ctx}{h:H}
def akt (a:ak) (b:Int):fz h (.int a b)=D (.int a b):=a9
def aiq (a:Bool):fz h (.ej a)=D (.ej a):=a9
def akr (a:List Nat):fz h (.str a)=D (.str a):=a9
attribute [simp] akt aiq akr
@[simp]def YO (a:List T) (b:Bool):fz h (.em a b)=D (sl (a.map cn)):=by show some (cn (.em a b))=_;rw[pS]
@[simp]def acN (a b c d:Nat):fz h (.eZ a b c d)=none:=by unfold fz jA;simp
def aiw (c:Nat) (a:ak) (b:Int):AT h (c+1) (.int a b)=D (.int a b):=a9
def ahb (b:Nat) (a:Bool):AT h (b+1) (.ej a)=D (.ej a):=a9
def aiu (b:Nat) (a:List Nat):AT h (b+1) (.str a)=D (.str a):=a9
attribute [simp] aiw ahb aiu
@[simp]def VQ (c:Nat) (a:List T) (b:Bool):AT h (c+1) (.em a b)=D (sl (a.map cn)):=by show some (cn (.em a b))=_;rw[pS]
@[simp]def YQ (b:Nat) (a:List T):AT h (b+1) (.eQ a)=Z (iK (AT h b) a) λc=>some (.eQ c):=by
 show(Z (Z (iK (freeze h 0 b) a) λc=>some (T.eQ c)) λd=>some (cn d))=_;unfold AT;rw[vq];rcases iK (freeze h 0 b) a with _|c
 rfl;simp[yq]
def iU(c e b d:Nat)(l:Bool):h.jQ (.arr c e b d l)=Z (h.get c) λa=>iT (decide (a.ep=e)) (if a.it=true then none else if b+d<=a.gU.length then some ((a.gU.drop b).take d)else none):=by
 show(Z (h.get c) λa=>jI.casesOn a λ_ g _ _ f j=>iT (aq g e) (Bool.casesOn f (Z (kZ b j) λm=>takeN d m) none))=_;rcases h.get c with _|a
 rfl;obtain⟨o,g,p,n,f,k⟩:=a;simp[fj,C7];congr 1;cases f;simp[df,nV,qh];by_cases i:b<=k.length;rw[ax i,fj]
 grind
 rw[aw i,aw G];rfl;rfl
def BI(i a c e d:Nat)(k:Bool):AT h (i+1) (.arr a c e d k)=Z (h.jQ (.arr a c e d k)) λf=>Z (iK (AT h i) f) λb=>some (sl b):=by
 have p:freeze h 0 (i+1) (.arr a c e d k)=iT (ar 0 a) (Z (h.get a) λg=>jI.casesOn g λ_ j _ exact l m=>
  iT (aq j c) (@Bool.rec (λ_=>aa T) (Z (Z (kZ e m) λb=>takeN d b) λf=>Z (iK (freeze h 0 i) f) λn=>
   @List.rec T (λ_=>aa T) (@List.rec T (λ_=>aa T) (@Bool.rec (λ_=>aa T) (some T.jb) (some (T.em [] false)) exact) (λ_ _ _=>some T.jb) m) (λ_ _ _=>some (T.em n k)) n) none l)):=rfl
 have q:h.jQ (.arr a c e d k)=Z (h.get a) λg=>jI.casesOn g λ_ j _ _ l m=>iT (aq j c) (@Bool.rec (λ_=>aa (List T)) (Z (kZ e m) λb=>takeN d b) none l):=rfl;unfold AT;rw[p,q];rw[show ar 0 a=true by simp,iO];rcases h.get a with _|g
 rfl;obtain⟨r,j,s,o,l,f⟩:=g;simp only[fj];cases aq j c;rfl;simp only[iO];cases l;simp only;cases (Z (kZ e f) λb=>takeN d b)with
 |none=>rfl
 |some es1=>
  simp only[fj];rw[vq];rcases iK (freeze h 0 i) es1 with _|AM
  rfl;simp only[fj];rcases AM with _|⟨g,b⟩
  cases f;cases o<;>simp[pS,sl];simp[sl];simp[pS]
 rfl
@[simp]def yk (a b e d:Nat) (c:Bool):fz h (.arr a b e d c)=Z (h.jQ (.arr a b e d c)) λf=>Z (iK (AT h 11) f) λg=>some (sl g):=by rw[<-BI];unfold fz AT jA;simp only;rw[show ar 0 a=true by simp]
def QO(a:List T):cn (sl a)=sl (a.map cn):=by rcases a with _|⟨c,b⟩;rfl;exact pS (c::b) false
def ag5(a:List T):fz h (sl a)=D (sl (a.map cn)):=by cases a<;>first|rfl|exact YO _ _
def acO(b:Nat)(a:List T):AT h (b+1) (sl a)=D (sl (a.map cn)):=by cases a<;>first|rfl|exact VQ b _ _
@[simp]def akE {d:Type} (a:d->T) (c:List d) (e:∀b,cn (a b)=a b):cn (sl (c.map a))=sl (c.map a):=by rw[QO,List.map_map];congr 2;funext b;grind
@[simp]def aks {d:Type} (a:d->T) (c:List d) (e:∀b,cn (a b)=a b):fz h (sl (c.map a))=D (sl (c.map a)):=by rw[ag5,List.map_map];congr 3;funext b;grind
@[simp]def aiv {d:Type} (e:Nat) (a:d->T) (c:List d) (f:∀b,cn (a b)=a b):AT h (e+1) (sl (c.map a))=D (sl (c.map a)):=by rw[acO,List.map_map];congr 3;funext b;grind
@[simp]def L8 {e:Type} (c:T->aa T) (a:e->T) (d:List e) (f:∀b,c (a b)=D (a b)):iK c (d.map a)=D (d.map a):=ww λb g=>by
 grind
@[simp]def Qu (a:List T):qY h (.eQ a)=Z (iK (fz h) a) λb=>some (.eQ b):=by
 show(Z (Z (iK (jA h 0) a) λb=>some (T.eQ b)) λc=>some (cn c))=_;unfold fz;rw[vq];rcases iK (jA h 0) a with _|b
 rfl;simp[yq]
def ait (a:ak) (b:Int):qY h (.int a b)=D (.int a b):=a9
def ag8 (a:Bool):qY h (.ej a)=D (.ej a):=a9
def air (a:List Nat):qY h (.str a)=D (.str a):=a9
def ag6 (a:List T) (b:Bool):qY h (.em a b)=fz h (.em a b):=a9
attribute [simp] ait ag8 air ag6
@[simp]theorem aku (a:List T):qY h (sl a)=fz h (sl a):=by cases a<;>rfl
@[simp]def YP (a b e d:Nat) (c:Bool):qY h (.arr a b e d c)=fz h (.arr a b e d c):=a9
@[simp]def ais (a b c d:Nat):qY h (.eZ a b c d)=none:=acN (h:=h) a b c d
@[simp]def ai1:WN h []=D []:=a9
@[simp]def ahx (b:T) (a:List T):WN h (b::a)=Z (qY h b) λd=>Z (WN h a) λc=>some (d::c):=a9
@[simp]def abx:rg []=true:=by rw[rg]
@[simp]def aam (b:T) (a:List T):rg (b::a)=(kT b&&rg a):=by rw[rg]
@[simp]def adO (a:ak) (b:Int):kT (.int a b)=true:=by rw[kT]
@[simp]def abz (a:Bool):kT (.ej a)=true:=by rw[kT]
@[simp]def adN (a:List Nat):kT (.str a)=true:=by rw[kT]
@[simp]def aby (a:List T) (b:Bool):kT (.em a b)=true:=by rw[kT]
@[simp]def aan:kT .jb=true:=by rw[kT]
@[simp]def afA (a:List T):kT (sl a)=true:=by cases a<;>simp[sl]
@[simp]def adQ (a:List T):kT (.eQ a)=rg a:=by rw[kT]
@[simp]def adP (a b e d:Nat) (c:Bool):kT (.arr a b e d c)=false:=by simp[kT]
@[simp]def aaH:rD []=true:=by rw[rD]
@[simp]def X2 (b:T) (a:List T):rD (b::a)=(nq b&&rD a):=by rw[rD]
@[simp]def abO (a:ak) (b:Int):nq (.int a b)=true:=by rw[nq]
@[simp]def aaI (a:Bool):nq (.ej a)=true:=by rw[nq]
@[simp]def abN (a:List Nat):nq (.str a)=true:=by rw[nq]
@[simp]def X4:nq .jb=true:=by rw[nq]
@[simp]def X3 (a:List T):nq (.tuple a)=rD a:=by rw[nq]
@[simp]def Qn (a:List T):o9 (sl a)=nR a:=by cases a<;>simp[sl]
@[simp]def aif {c:Type} (a:c->T) (b:List c) (d:∀e,o9 (a e)):nR (b.map a)=true:=Sy a d b
@[simp]theorem aho (a:List T):(sl a).cells=[sl a]:=by cases a<;>rfl
@[simp]theorem aio (a:List T):(sl a).iW=true:=by cases a<;>rfl
def ag0 (a b e d:Nat) (c:Bool):(T.arr a b e d c).iW=true:=a9
def agY (a b c d:Nat):(T.eZ a b c d).iW=true:=a9
def ael (a b e d:Nat) (c:Bool):(T.arr a b e d c).cells=[.arr a b e d c]:=a9
def aej (a b c d:Nat):(T.eZ a b c d).cells=[.eZ a b c d]:=a9
attribute [simp] ag0 agY ael aej
@[simp]def aig (b:Ty) (a:List T) (d:ab) (c:b.u= .slice d):Io cx h b (sl a)=be (.int .i64 a.length) h:=by cases a<;>simp[sl,c]
@[simp]theorem aim (c:Ty) (a:List T) (b:Nat):my h c (sl a) b=Z (a[b]?) λd=>iT (decide (d.cells.length=c.size)) (be (.kA d.cells) h):=by cases a<;>simp[sl];rfl
@[simp]theorem VL (a:List T):h.jQ (sl a)=D a:=by cases a<;>rfl
def Du{a b:List T}(c:sl a=sl b):a=b:=by
 cases a<;>cases b<;>simp[sl]at c;rfl
 grind
def j3{f:Type}{a:f->T}(i:∀d e,a d=a e->d=e){b c:List f}(g:sl (b.map a)=sl (c.map a)):b=c:=by
 have:=Du g
 grind [List.map_inj_right]
@[simp]def fg (b:jI) (a:Nat):(h.cons b).get a=if a=h.size then some b else h.get a:=by
 rw[H.get_eq,H.get_eq];show(if a<h.size+1 then(b::h.iv)[h.size+1-1-a]? else none)=_
 grind
def ez{a:Nat}{x:jI}(k:h.get a=D x)(d:jI)(f:Nat):(fF h a d).get f=if f=a then some d else h.get f:=by
 have c:=zx k d;generalize fF h a d=g at*
 obtain⟨b,i,e⟩:=h;have l:a<b:=H.fN k;have c:(iT (au a b) (Z (lQ e (Nat.sub (Nat.sub b 1) a) d) λj=> @Bool.rec (λ_=>aa H) (some ⟨b,i,j⟩) (some ⟨b,a,j⟩) (au a i)))=D g:=c;rw[show au a b=true from aP▸l,iO,mt]at c;by_cases hl:Nat.sub (Nat.sub b 1) a<e.length;rw[ax hl,fj]at c;have p:g.size=b/\g.iv=e.set (b-1-a) d:=by
  cases m:au a i<;>rw[m]at c<;>simp[ay]at c<;>subst c<;>exact⟨rfl,rfl⟩
 obtain⟨n,o⟩:=p;rw[H.get_eq,H.get_eq,n,o];have hl:b-1-a<e.length:=hl
 grind
 simp_all[aw]
@[simp]theorem iB (b:Nat) (f:jI):(fF h b f).size=h.size:=by
 unfold fF;rcases a:h.put b f with _|g
 rfl;obtain⟨c,e,i⟩:=h;have a:(iT (au b c) (Z (lQ i (Nat.sub (Nat.sub c 1) b) f) λd=> @Bool.rec (λ_=>aa H) (some ⟨c,e,d⟩) (some ⟨c,b,d⟩) (au b e)))=D g:=a;have⟨_,a⟩:=fh.1 a;have⟨d,_,a⟩:=ed.1 a;show g.size=c;cases j:au b e<;>rw[j]at a<;>simp[ay]at a<;>subst a<;>rfl
@[simp]def ajd (b:Nat) (g:jI):Hp (fF h b g)=Hp h:=by
 unfold fF;rcases a:h.put b g with _|i
 rfl;obtain⟨d,f,j⟩:=h;have a:(iT (au b d) (Z (lQ j (Nat.sub (Nat.sub d 1) b) g) λe=> @Bool.rec (λ_=>aa H) (some ⟨d,f,e⟩) (some ⟨d,b,e⟩) (au b f)))=D i:=a;have⟨_,a⟩:=fh.1 a;have⟨e,c,a⟩:=ed.1 a;rw[mt]at c;split at c;cases c;show Hp i=_;unfold Hp;cases k:au b f<;>rw[k]at a<;>simp[ay]at a<;>subst a<;>simp
 grind
@[simp]def XS (a:Nat):gJ h h a=true:=by unfold gJ;cases h.get a<;>simp
@[simp]def XT (c:jI) (a:Nat):gJ h (h.cons c) a=true:=by
 unfold gJ;rcases b:h.get a with _|d
 rfl;have:=H.fN b;simp[fg,aw (show¬a=h.size by omega),b]
def EB{b:Nat}{e:jI}(d:h.get b=D e)(f:jI){a:Nat}(c:a≠b):gJ h (fF h b f) a=true:=by unfold gJ;rw[ez d,aw c];cases h.get a<;>simp
def SQ(h:H)(a:List T):aa T:=Z (j4 h 0 (kJ a)) λb=>some (cn b)
@[simp]def Kr (a:T) (b:a.iW):SQ h [a]=qY h a:=by cases a<;>first|rfl|(simp[T.iW]at b)
def MC(a:List T):(Z (j4 h 0 (.tuple a)) λc=>some (cn c))=Z (iK (qY h) a) λb=>some (.tuple b):=by
 show(Z (Z (iK (lV h 0) a) λb=>some (T.tuple b)) λc=>some (cn c))=_;unfold qY;rw[vq];rcases iK (lV h 0) a with _|b
 rfl;simp[xO]
@[simp]def akv (b c:T) (a:List T):SQ h (b::c::a)=Z (iK (qY h) (b::c::a)) λd=>some (.tuple d):=MC (b::c::a)
def Pz(h:H)(a:List T)(b:T):Prop:=Hp h/\SQ h a=D b
def ZM(a:List T)(b:T):Pz h a b=(Hp h/\SQ h a=D b):=rfl
attribute [simp] ZM
end
section
variable {P:ai}{cx:Ctx}{cf:jU}{M:Nat}
def pt:List (Nat×iE)->aj->aa iE
 | [],_=>none
 |(b,d)::c,a=>if a=b then some d else pt c a
def ht:List (Nat×mU)->aj->aa mU
 | [],_=>none
 |(b,d)::c,a=>if a=b then some d else ht c a
def ajJ (a:aj):pt [] a=none:=a9
def aia (b:Nat) (d:iE) (c:List (Nat×iE)) (a:aj):pt ((b,d)::c) a=if a=b then some d else pt c a:=a9
def ako (a:aj):ht [] a=none:=a9
def ain (b:Nat) (d:mU) (c:List (Nat×mU)) (a:aj):ht ((b,d)::c) a=if a=b then some d else ht c a:=a9
attribute [simp] ajJ aia ako ain
def gW{f:Env->H->Out}(b:Nat)(l:b<9223372036854775808)(d:Nat->iP->H->Prop){e:jD}
 (m:∀c a h,c<b->binop .add (.int .i64 (c:Int)) (.int .i64 1)=D (.int .i64 ((c:Int)+1))->d c a h->W (f ⟨a,.nil⟩ h) (BE (λg h=>g.tmps= .nil/\d (c+1) g.vars h) e))
 (o:∀a h,d b a h->W (f ⟨a,.nil⟩ h) (BE (λg h=>False) e))
 {j:Nat} (k:b<j) {a:iP} {h:H} (i:d 0 a h):W (qQ f j ⟨a,.nil⟩ h) e:=by
 refine Xa b d (λc a h n i=>?_) k (aB b) i
 grind [aW,jf]
def C6{a:Func}(c:A5 ⟨a,M,false,none⟩):∃b,a.body=D b:=by
 unfold A5 at c
 grind
def aex(C:P.follows .mixedOrders)(j9:jP P cx){l:aj}{b:Func}{r:DL}(g:H6 P cx l b M r)(y:p9 P cx cf){a:List T}{n:T}(hl:nR a)(E:a.length<=b.ntmps)(i:Nat)
 (N:∀w,oZ w 0 a->W (kw cx cf i M r (b.body.getD .skip) ⟨w,.nil⟩ hE) (CJ cx M b.results.toList λt h=>Pz h t n)):mT P cx l a n:=by
 have Y:∃c,cn c=n/\wD cx cf i b M false a hE=D (c,hE):=by
  have⟨u,L,_,B⟩:=oM M b.ntmps 0 a E;have⟨Z,z,h,d,O,t,hr,I,f⟩:=HX (N u B);have d:=tV _ g.dr _ _ _ d;have⟨x,e⟩:=C6 g.ok;rw[e]at d;unfold SQ at f;have⟨c,f,s⟩:=ed.1 f;simp[ay]at s;refine⟨c,s,?_⟩;unfold wD;rw[e];simp only;rw[L,fj];have d:ll cx cf i M x ⟨u,.nil⟩ ⟨0,0,[]⟩=D (Z,z,h):=d;rw[d,fj,nK];have K:=rh hr;rcases O with rfl|rfl<;>(simp only;rw[K,fj];exact Mf I f)
 obtain⟨c,rfl,e⟩:=Y;have A:mT P cx l a c:=Ct (mI _ hl) λj p q k o m=>
  sr (F:=⟨b,M,false,none⟩) C j9 g.at_ g.ok cf y i a hE c hE e j p q k o m
 intro j p q k h o m;refine(A j p q k h o m).mono λv al ⟨⟨ae,Q,R,S,U⟩,X⟩=>?_;exact⟨⟨ae,Q.cn,R,S,U⟩,X⟩
end
end
section
structure Fr(lo:Nat)(h h':H):Prop where
 size:h.size<=h'.size
 hp:Hp h->Hp h'
 get:∀c,c<lo->h'.get c=h.get c
 low:lo<=h.low->lo<=h'.low
def Fr.refl(a:Nat)(h:H):Fr a h h:=⟨az _,id,λ_ _=>rfl,id⟩
def Fr.trans{d:Nat}{h g i:H}(a:Fr d h g)(b:Fr d g i):Fr d h i:=⟨aU a.size b.size,λc=>b.hp (a.hp c),λf j=>(b.get f j).trans (a.get f j),λc=>b.low (a.low c)⟩
theorem Fr.cons{lo:Nat}{h:H}(hl:lo<=h.size)(a:jI):Fr lo h (h.cons a):=⟨V,V,λb c=>by simp;omega,id⟩
def Uc(h:H)(b:Nat)(i:jI)(c:Nat)(k:c<=h.low)(n:c<=b):c<=(fF h b i).low:=by
 unfold fF;rcases a:h.put b i with _|j
 exact k;obtain⟨d,g,l⟩:=h;have a:(iT (au b d) (Z (lQ l (Nat.sub (Nat.sub d 1) b) i) λf=> @Bool.rec (λ_=>aa H) (some ⟨d,g,f⟩) (some ⟨d,b,f⟩) (au b g)))=D j:=a;have⟨_,a⟩:=fh.1 a;have⟨f,_,a⟩:=ed.1 a;show c<=j.low;cases m:au b g<;>rw[m]at a<;>simp[ay]at a<;>subst a;exact k;omega
theorem Fr.put{b:Nat}{h:H}{a:Nat}{x:jI}(g:h.get a=D x)(f:b<=a)(d:jI):Fr b h (fF h a d):=⟨V,V,λc j=>by rw[ez g,aw G],λi=>Uc h a d b i f⟩
def vQ(h:H)(g:Nat)(d:T)(i:Nat)(b:List T):Prop:=
 (d= .em [] false/\b=[])\/∃a c j f,g<=a/\d= .arr a c 0 b.length false/\h.get a=D ⟨i,c,j,f,false,b⟩
theorem vQ.nil(h:H)(a b:Nat):vQ h a (.em [] false) b []:= .inl ⟨rfl,rfl⟩
theorem vQ.cons{h:H}{lo:Nat}{f:T}{d:Nat}{b:List T}(a:vQ h lo f d b)(n:jI):vQ (h.cons n) lo f d b:=by rcases a with a|⟨g,i,m,j,k,l,c⟩;exact .inl a;have:=H.fN c;exact .inr ⟨g,i,m,j,k,l,by rw[fg,aw G];exact c⟩
theorem vQ.iW{h:H}{d:Nat}{a:T}{f:Nat}{b:List T}(c:vQ h d a f b):a.iW=true:=by rcases c with⟨rfl,_⟩|⟨g,i,m,j,k,rfl,l⟩<;>rfl
theorem vQ.cells{h:H}{d:Nat}{a:T}{f:Nat}{b:List T}(c:vQ h d a f b):a.cells=[a]:=by rcases c with⟨rfl,_⟩|⟨g,i,m,j,k,rfl,l⟩<;>rfl
def vQ.fz{h:H}{g:Nat}{d:T}{i:Nat}{b a:List T}(f:vQ h g d i b)(c:iK (AT h 11) b=D a):TI.fz h d=D (sl a):=by rcases f with⟨rfl,rfl⟩|⟨j,k,o,l,m,rfl,n⟩;have c:some []=D a:=c;simp_all;simp_all[iU,yk]
def vQ.qY{h:H}{i:Nat}{d:T}{j:Nat}{a b:List T}(c:vQ h i d j a)(g:iK (AT h 11) a=D b):TI.qY h d=D (sl b):=by rw[<-c.fz g];rcases c with⟨rfl,_⟩|⟨k,l,p,m,n,rfl,o⟩<;>rfl
@[simp]theorem adW {cx:Ctx} {M:Nat} {e:Env} {h:H} (a:List ah) (b c:ab):ka (.call ⟨.builtin .append,a.toArray,#[b,c]⟩) cx M e h=Z (iK (iG cx M e) a) λd=>(match d with| [f,g]=>ju cx h b c f g|_=>none):=rfl
def mB{sz:Nat}{es:List T}(a:∀e∈es,e.cells.length=sz):fits sz es=true:=by rcases es with _|⟨e,es⟩;rfl;show aq (m7 e.cells) sz=true;rw[kG,a e V];simp
def rR{h:H}{b bytes:Nat}{a:List T}(c:∀e∈a,e.cells.length=b)(d:1<=bytes)(f:a.length*bytes<=70368744177664):
 h.jK b bytes [] a=D (.arr h.size 0 0 a.length false,h.cons ⟨b,0,0,false,false,a⟩):=by
 unfold H.jK;rw[qt,fj,kG,jv,fj,mB c,mB V];simp_all
def Al{h:H}{f bytes c d i:Nat}{j:Bool}{a b:List T}(g:h.get c=D ⟨f,d,i,j,false,a⟩)(k:∀e∈b,e.cells.length=f)(l:1<=bytes)(m:(a.length+b.length)*bytes<=70368744177664):
 h.oL f bytes c d a.length b=D (.arr c (d+1) 0 (a++b).length false,fF h c ⟨f,d+1,i+1,false,false,a++b⟩):=by
 unfold H.oL;rw[g];simp[fj,qh,aM,qt,kG,jv,mB k,zx g];simp_all
def vQ.app{cx:Ctx}{h:H}{k:Nat}{c:T}{a:Nat}{d:List T}(w:vQ h k c a d)(v:k<=h.size){q r l:ab}{A B b:Ty}(F:cx.ty q=D A)(I:A.u= .slice l)(K:cx.ty l=D b)(L:cx.ty r=D B)(M:B.u= .slice l)(y:b.size=a)(t:1<=b.bytes)
 {x:T} {xs:List T} (P:h.jQ x=D xs) (o:∀e∈xs,e.cells.length=a) (O:(d.length+xs.length)*b.bytes<=70368744177664):
 ∃C m,ju cx h q r c x=be C m/\vQ m k C a (d++xs)/\Fr k h m:=by
 have N:ju cx h q r c x=km (h.append b.size b.bytes c xs):=by
  unfold ju rM oz;rw[F,fj,L,fj];simp[I,K,M,P,fj];rw[y,mB o,iO]
 rw[N,y];rcases xs with _|⟨f,g⟩
 refine⟨c,h,?_,by grind,Fr.refl _ _⟩;show km (iT (rI c) (some (c,h)))=_;rcases w with⟨rfl,_⟩|⟨i,j,s,E,_,rfl,_⟩<;>rfl
 rcases w with⟨rfl,rfl⟩|⟨i,j,s,E,z,rfl,p⟩;refine⟨.arr h.size 0 0 (f::g).length false,h.cons ⟨a,0,0,false,false,f::g⟩,?_,.inr ⟨h.size,0,0,false,v,rfl,V⟩,Fr.cons v _⟩;show km (h.jK a b.bytes [] (f::g))=_;rw[rR o t c5];rfl;refine⟨.arr i (j+1) 0 (d++f::g).length false,fF h i ⟨a,j+1,s+1,false,false,d++f::g⟩,?_,.inr ⟨i,j+1,s+1,false,z,rfl,by rw[ez p,ax rfl]⟩,Fr.put p z _⟩;show km (h.oL a b.bytes i j d.length (f::g))=_;rw[Al p o t O];rfl
theorem d4{p:Prop}(h:p:=by rw[iU];simp):p:=h
def vQ.mR{cx:Ctx}{h:H}{c:Nat}{o:T}{a:Nat}{i:List T}(s:vQ h c o a i)(r:c<=h.size){j k:ab}{n d:Ty}(l:cx.ty j=D n)(m:n.u= .slice k)(p:cx.ty k=D d)(t:d.size=a)(q:1<=d.bytes)
 {e:T} (z:e.cells.length=a) (A:(i.length+1)*d.bytes<=70368744177664):
 ∃g b,ju cx (h.cons ⟨a,0,0,true,false,[e]⟩) j j o (.arr h.size 0 0 1 false)=be g b/\vQ b c g a (i++[e])/\Fr c h b:=by
 have⟨g,b,v,w,y⟩:=(s.cons ⟨a,0,0,true,false,[e]⟩).app (x:= .arr h.size 0 0 1 false) (xs:=[e]) dP l m p l m t q d4 c5 G;exact⟨g,b,v,w,(Fr.cons r _).trans y⟩
@[simp]def VE (h:H) (a:jI):(h.cons a).low=h.low:=a9
@[simp]theorem zH (h:H) (f c:jI) (g:Nat) (j:g=h.size) (hl:h.low<=h.size):fF (h.cons f) g c=h.cons c:=by
 subst j;obtain⟨a,b,d⟩:=h;unfold fF;have:(H.cons ⟨a,b,d⟩ f).put a c=D (H.cons ⟨a,b,d⟩ c):=by
  show(iT (au a (a+1)) (Z (lQ (f::d) (Nat.sub (Nat.sub (a+1) 1) a) c) λi=> @Bool.rec (λ_=>aa H) (some ⟨a+1,b,i⟩) (some ⟨a+1,a,i⟩) (au a b)))=D ⟨a+1,b,c::d⟩;rw[show au a (a+1)=true by rw[aP];omega,iO,mt,show Nat.sub (Nat.sub (a+1) 1) a=0 by simp];simp only[aZ,Nat.zero_lt_succ,if_true,cJ,fj];rw[show au a b=false by rw[cO];intro k;rw[aP]at k;grind]
 rw[this];rfl
@[simp]def ah5 (h:H) (i d:jI) (a:Nat) (j:a<h.size):fF (h.cons i) a d=(fF h a d).cons i:=by
 obtain⟨b,c,f⟩:=h;have j:a<b:=j;have k:(H.cons ⟨b,c,f⟩ i).put a d=iT (au a (b+1)) (Z (lQ (i::f) (Nat.sub (Nat.sub (b+1) 1) a) d) λg=> @Bool.rec (λ_=>aa H) (some ⟨b+1,c,g⟩) (some ⟨b+1,a,g⟩) (au a c)):=rfl;have l:(⟨b,c,f⟩:H).put a d=iT (au a b) (Z (lQ f (Nat.sub (Nat.sub b 1) a) d) λg=> @Bool.rec (λ_=>aa H) (some ⟨b,c,g⟩) (some ⟨b,a,g⟩) (au a c)):=rfl;unfold fF;rw[k,l,show au a (b+1)=true by rw[aP];omega,show au a b=true from aP▸j,iO,iO,mt,mt,
  show Nat.sub (Nat.sub (b+1) 1) a=Nat.sub (Nat.sub b 1) a+1 by grind]
 by_cases hl:Nat.sub (Nat.sub b 1) a<f.length;rw[ax c5,ax hl,fj,fj];cases au a c<;>rfl;simp_all[aw]
def fD(a:List T)(b:Nat)(c:List T):ly (.eQ a) b c=Z (mJ a b c) λd=>some (.eQ d):=rfl
attribute [simp] fD
def adR (b:ak) (c:Int) (a:T):ly (.int b c) 0 [a]=D a:=a9
def abB (b:Bool) (a:T):ly (.ej b) 0 [a]=D a:=a9
def abA (b:List T) (c:Bool) (a:T):ly (.em b c) 0 [a]=D a:=a9
def acP (a:Nat):nC [] a=false:=a9
attribute [simp] adR abB abA acP
@[simp]theorem aaV (b d a:Nat) (c:List (Nat×Nat)):nC ((b,d)::c) a=(decide (b=a)||nC c a):=by unfold nC;rw[List.any_cons];rfl
@[simp]def agS (a b:Nat):D4 [] a b=false:=a9
@[simp]theorem ad9 (c d a b:Nat) (f:List (Nat×Nat)):D4 ((c,d)::f) a b=((decide (c=a)&&decide (d=b))||D4 f a b):=by unfold D4;rw[List.any_cons];rfl
@[simp]def OZ (a:List (Nat×Nat)) (b:Nat) (h:H) (c:List (Nat×Nat)):Ag a b h h c=True:=by unfold Ag;simp
@[simp]def agy {f:Type} (a b:Nat) (d:f) (c:List (Nat×f)):List.lookup a ((b,d)::c)=if a=b then some d else List.lookup a c:=by
 rw[List.lookup_cons]
 grind
def Pc(a:T):Nat:=a.cells.length
def aiZ (a:ak) (b:Int):Pc (.int a b)=1:=a9
def ahl (a:Bool):Pc (.ej a)=1:=a9
def aiY (a:List Nat):Pc (.str a)=1:=a9
attribute [simp] aiZ ahl aiY
def H8(cx:Ctx)(h:H)(c:Ty)(d:T)(f a b:aa Nat):aa ni:=iT (jy cx h c.u d) (iT (zO a b) (val h (sh (asSlice c.u d) f a b)))
def oiK(cx:Ctx)(M:Nat)(e:Env)(a:aa ah):aa (aa Nat):=kQ cx M e a
section
variable {cx:Ctx}{M:Nat}{e:Env}{h:H}
@[simp]def agh:oiK cx M e none=D none:=a9
@[simp]def agf (a:ah):oiK cx M e (some a)=Z (iG cx M e a) λc=>Z (tq c) λb=>some (some b):=a9
@[simp]theorem agj (g:ab) (a:ah) (d b c:aa ah):ka (.slice g a d b c) cx M e h=Z (cx.ty g) λf=>Z (iG cx M e a) λa=>Z (oiK cx M e d) λd=>Z (oiK cx M e b) λb=>Z (oiK cx M e c) λc=>H8 cx h f a d b c:=by show(Z (cx.ty g) λf=>Z (iG cx M e a) λa=>iT (jy cx h f.u a)<|Z (kQ cx M e d) λd=>Z (kQ cx M e b) λb=>Z (kQ cx M e c) λc=>iT (zO b c) (val h (sh (asSlice f.u a) d b c)))=_;unfold oiK H8;congr 1;funext f;congr 1;funext a;cases jy cx h f.u a;simp[SU];cases kQ cx M e d<;>simp;cases kQ cx M e b<;>simp;cases kQ cx M e c<;>simp;rfl
def QM{d:Type}(c:List d)(b a:Nat)(g:b<=a)(f:a<=c.length):Pb c b a=D ((c.drop b).take (a-b)):=by unfold Pb;rw[nV,ax G,fj,qh];rw[ax c5];rfl
def TR(d:List T)(a b:Nat)(o:a<=b)(n:b<=d.length)(f c:aa Nat)(k:ja f 0=a)(g:ja c d.length=b):sh (sl d) f c none=D (sl ((d.drop a).take (b-a))):=by
 rcases d with _|⟨j,i⟩;have l:b=0:=by grind
 subst l;have m:a=0:=G;subst m;show(iT (aq (ja f 0) 0) (iT (aq (ja c 0) 0) (some T.jb)))=_;have g:ja c 0=0:=g;rw[k,g];rfl;show sg (j::i) false (ja f 0) (ja c (m7 (j::i))) none=_;rw[kG,k,g];unfold sg;rw[QM _ _ _ o n,fj,show ar a b=true by simp_all,iO];cases (List.take (b-a) (List.drop a (j::i)))<;>rfl
def NN{d i:Ty}{f:ab}(g:d.u= .slice f)(ht:cx.ty f=D i){a:List T}(l:∀j∈a,j.cells.length=i.size){c b:aa Nat}(n:ja c 0<=ja b a.length)(m:ja b a.length<=a.length):
 H8 cx h d (sl a) c b none=be (sl ((a.drop (ja c 0)).take (ja b a.length-ja c 0))) h:=by
 unfold H8;have k:jy cx h d.u (sl a):=by
  rw[g];unfold jy;simp[ht];rcases a with _|⟨j,o⟩
  rfl;exact mB l
 rw[k,iO,show zO b none=true from rfl,iO,show asSlice d.u (sl a)=sl a by rw[g];rfl,TR a _ _ n m c b rfl rfl];rfl
@[simp]def ajv {j:Type} (i d:Ty) (g:ab) (a:j->T) (b:List j) (c:Nat) (l:i.u= .slice g) (ht:cx.ty g=D d) (k:∀m,Pc (a m)=d.size) (n:c<=b.length):H8 cx h i (sl (b.map a)) none (some c) none=be (sl ((b.take c).map a)) h:=by rw[NN l ht (iD (λf _=>show(a f).cells.length=d.size from k f)) (by simp[ja]) (by grind [ja])];simp[ja,List.map_take]
@[simp]def afy {j:Type} (i d:Ty) (g:ab) (a:j->T) (b:List j) (c:Nat) (l:i.u= .slice g) (ht:cx.ty g=D d) (k:∀m,Pc (a m)=d.size) (n:c<=b.length):H8 cx h i (sl (b.map a)) (some c) none none=be (sl ((b.drop c).map a)) h:=by rw[NN l ht (iD (λf _=>show(a f).cells.length=d.size from k f)) (by grind [ja]) (by simp[ja])];simp[ja,aK,<-List.map_drop];rw[bR V]
@[simp]def ah4 {k:Type} (j f:Ty) (i:ab) (a:k->T) (d:List k) (c b:Nat) (m:j.u= .slice i) (ht:cx.ty i=D f) (l:∀n,Pc (a n)=f.size) (p:c<=b) (o:b<=d.length):H8 cx h j (sl (d.map a)) (some c) (some b) none=be (sl (((d.drop c).take (b-c)).map a)) h:=by rw[NN m ht (iD (λg _=>show(a g).cells.length=f.size from l g)) (by grind [ja]) (by grind [ja])];simp[ja,List.map_take,List.map_drop]
@[simp]def PQ (g k:Ty) (i:ab) (a c f d b:Nat) (q:Bool) (l:jI) (j:g.u= .slice i) (ht:cx.ty i=D k) (r:h.get a=D l) (s:l.sz=k.size) (n:b<=d):H8 cx h g (.arr a c f d false) none (some b) none=be (.arr a c f b false) h:=by
 unfold H8;have m:jy cx h g.u (.arr a c f d false):=by
  rw[j];unfold jy;simp_all
 rw[m,iO,show zO (some b) none=true from rfl,iO,show asSlice g.u (.arr a c f d false)= .arr a c f d false by rw[j];rfl];show val h (iT (ar 0 b) (iT (ar b d) (Z (iZ (Nat.add f 0)) λp=>Z (iZ (Nat.sub b 0)) λo=>some (T.arr a c p o false))))=_;simp[n]
def V6(cx:Ctx)(h:H)(d b:ab)(c:Ty)(a:T):aa ni:=match c.u with
 | .slice _=>val h (HR cx b a)
 | .str=>(match a with
  | .str _=>val h (conv cx b a)
  |_=>val h (Ie cx h d a))
 |_=>val h (conv cx b a)
@[simp]theorem ach (b a:ab) (c:ah):ka (.convert b a c) cx M e h=Z (cx.ty b) λ_=>Z (iG cx M e c) λd=>Z (cx.ty a) λf=>V6 cx h b a f d:=rfl
def FE{k d:ab}{b:Ty}{c g:ak}{a:Int}(i:cx.ty d=D b)(f:b.u= .int c)(j:PA c a=a):V6 cx h k d b (.int g a)=be (.int c a) h:=by
 unfold V6;rw[f];show val h (Z (cx.ty d) λb=>match b.u with
  | .int c=>(match(T.int g a)with| .int _ a=>rk c a|_=>none)
  | .str=>_
  |_=>none)=_
 rw[i,fj,f];simp[rk,j]
@[simp]def aiX (k c:ab) (b:Ty) (j:ak) (a:Int) (g:cx.ty c=D b) (i:b.u= .int .i64) (d: -9223372036854775808<=a) (f:a<9223372036854775808):V6 cx h k c b (.int j a)=be (.int .i64 a) h:=FE g i (kI d f)
@[simp]def Yz (f:ab) (a b:ah):ka (.makeSlice f a b) cx M e h=Z (cx.ty f) λd=>(match d.u with
 | .slice g=>Z (cx.ty g) λc=>Z (iG cx M e a) λa=>Z (iG cx M e b) λb=>Z (tq a) λa=>Z (tq b) λb=>
  iT (decide (1<=c.size))<|iT (decide (1<=c.bytes))<|iT (decide (a<=b)) (iT (decide (b*c.bytes<=70368744177664)) (be (.arr h.size 0 0 a false) (h.cons ⟨c.size,0,0,decide (a=b),false,ao a c.kV⟩)))
 |_=>none):=by
 show(Z (cx.ty f) λd=>_)=_;congr 1;funext d;cases d.u<;>first|rfl|skip
 simp
@[simp]def aaN (b:aj) (a:List ah):ka (.makeFunc (.func b) #[] a.toArray) cx M e h=Z (iK (iG cx M e) a) λc=>be (.func b c) h:=by show(Z (tM cx M e a) λa=>val h (some (T.func b a)))=_;simp
end
def vQ.Zv{cx:Ctx}{h:H}{d:Nat}{q:T}{b:Nat}{k:Type}{a:k->T}{g:List k}(w:vQ h d q b (g.map a))(v:d<=h.size){i m:ab}{p f:Ty}(n:cx.ty i=D p)(o:p.u= .slice m)(r:cx.ty m=D f)(y:f.size=b)(s:1<=f.bytes)
 (t:∀x,Pc (a x)=b) (xs:List k) (z:(g.length+xs.length)*f.bytes<=70368744177664):
 ∃j c,ju cx h i i q (sl (xs.map a))=be j c/\vQ c d j b ((g++xs).map a)/\Fr d h c:=by
 have⟨j,c,A,B,C⟩:=w.app (x:=sl (xs.map a)) (xs:=xs.map a) v n o r n o y s V (iD (λl _=>show(a l).cells.length=b from t l)) c5
 grind
def vQ.WP{cx:Ctx}{h:H}{f:Nat}{o:T}{c:Nat}{l:Type}{b:l->T}{i:List l}(w:vQ h f o c (i.map b))(v:f<=h.size){j m:ab}{n g:Ty}(p:cx.ty j=D n)(q:n.u= .slice m)(r:cx.ty m=D g)(x:g.size=c)(s:1<=g.bytes)
 (t:∀a,Pc (b a)=c) (a:l) (y:(i.length+1)*g.bytes<=70368744177664):
 ∃k d,ju cx (h.cons ⟨c,0,0,true,false,[b a]⟩) j j o (.arr h.size 0 0 1 false)=be k d/\vQ d f k c ((i++[a]).map b)/\Fr f h d:=by
 have⟨k,d,z,A,B⟩:=w.mR v p q r x s (e:=b a) (t a) c5
 grind
def vQ.fzM{h:H}{j:Nat}{b:T}{k:Nat}{d:Type}{f:d->T}{a:List d}(i:vQ h j b k (a.map f))(g:∀c,AT h 11 (f c)=D (f c)):TI.qY h b=D (sl (a.map f)):=i.qY (L8 _ _ _ g)
def yW{c:ai}{cx:Ctx}{tb:ik}{b:iE}(l:c.follows .mixedOrders)(j9:jP c cx){g:aj}{d:Func}{M:Nat}{f:DL}(o:H6 c cx g d M f)(i:b.α->Nat)(hl:∀a,nR (b.A a))(m:∀a,(b.A a).length<=d.ntmps)
 (n:∀a,b.pre a->∀j,oZ j 0 (b.A a)->W (kw cx (rY c cx tb) (i a) M f (d.body.getD .skip) ⟨j,.nil⟩ hE) (CJ cx M d.results.toList λp h=>Pz h p (b.R a))):b.Ok c cx g:=
 λa k=>aex l j9 o (HJ c cx tb) (hl a) (m a) (i a) (n a k)
attribute [simp] Wi
end
abbrev sP(a:T)(c:List T)(g:Nat):Prop:=a.cells=c/\Pc a=g/\(∀d e,ly a d e=Z (mJ c d e) λh=>some (.eQ h))/\a.iW/\cn a=a/\(∀b,qY b a=D a)/\(∀b f,AT b (f+2) a=D a)/\kT a/\o9 a=true
def qv{f:Type}{a:f->T}(h:∀d e,a d=a e->d=e){b c:List f}:(sl (b.map a)=sl (c.map a))=(b=c):=propext ⟨j3 h,λg=>by rw[g]⟩
def EZ{d:T}{a:List T}{c:Nat}(f:Pc (.eQ a)=c:=by rfl)(g:cn (.eQ a)= .eQ a:=by simp[yq])(h:∀b,qY b (.eQ a)=D (.eQ a):=by intro _;simp)(i:∀b e,AT b (e+2) (.eQ a)=D (.eQ a):=by intro _ _;simp)(j:kT (.eQ a)=true:=by simp)(k:o9 (.eQ a)=true:=by simp)(b:d= .eQ a:=by rfl):sP d a c:=by subst b;exact⟨rfl,f,λ_ _=>rfl,rfl,g,h,i,j,k⟩
def XR(c:ak)(a b:List Int):(sl (a.map (T.int c))=sl (b.map (T.int c)))=(a=b):=qv λ_ _ d=>iD d
def slB(a b:List Bool):(sl (a.map T.ej)=sl (b.map T.ej))=(a=b):=qv λ_ _ c=>iD c
def slS(a b:List (List Nat)):(sl (a.map T.str)=sl (b.map T.str))=(a=b):=qv λ_ _ c=>iD c
def TL{a b:List Nat}:T.str a=T.str b->a=b:=V 
def Hc{c:ak}{a b:Int}:T.int c a=T.int c b->a=b:=V 
def F4{f:Type}{a:f->T}(h:∀d e,a d=a e->d=e)(b c:List f)(g:sl (b.map a)=sl (c.map a)):b=c:=j3 h g
def Do(b:U)(a:Nat)(c:T):Ty:=⟨b,1,a,false,[c]⟩
def vV(d:List (Nat×Nat))(c a:Nat)(b:Bool)(e:List T):Ty:=⟨.struct d,c,a,b,e⟩
def K7(d c e a:Nat)(b:Bool)(f:List T):Ty:=⟨.array d c,e,a,b,f⟩
@[simp]def akU (b:U) (a:Nat) (c:T):(Do b a c).size=1/\(Do b a c).bytes=a/\(Do b a c).u=b:=⟨rfl,rfl,rfl⟩
@[simp]def akZ (d:List (Nat×Nat)) (a c:Nat) (e:Bool) (b:List T):(vV d a c e b).size=a/\(vV d a c e b).bytes=c/\(vV d a c e b).u= .struct d/\(vV d a c e b).kV= .eQ b/\(vV d a c e b).zero=b/\∀f,lj (vV d a c e b) f=Z (takeN a f) λg=>some (.eQ g):=⟨rfl,rfl,rfl,rfl,rfl,λ_=>rfl⟩
@[simp]def akR (e d a c:Nat) (f:Bool) (b:List T):(K7 e d a c f b).size=a/\(K7 e d a c f b).bytes=c/\(K7 e d a c f b).u= .array e d/\(K7 e d a c f b).kV= .eQ b/\(K7 e d a c f b).zero=b/\∀g,lj (K7 e d a c f b) g=Z (takeN a g) λh=>some (.eQ h):=⟨rfl,rfl,rfl,rfl,rfl,λ_=>rfl⟩
abbrev Tq(a:ak)(b:Nat):Ty:=Do (.int a) b (.int a 0)
abbrev tyB:Ty:=Do .ej 1 (.ej false)
abbrev tyZ:Ty:=Do .str 16 (.str [])
abbrev Dm(a:Nat):Ty:=Do (.slice a) 24 (.em [] false)
abbrev To(a:Nat):Ty:=Do (.eZ a) 8 .mf
@[simp]def akW (d:ak) (c:Nat) (b:T):(Do (.int d) c b).kV=b/\∀a,lj (Do (.int d) c b) a=a[0]? :=⟨rfl,λa=>mV a 0⟩
@[simp]def akY (c:Nat) (b:T):(Do .ej c b).kV=b/\∀a,lj (Do .ej c b) a=a[0]? :=⟨rfl,λa=>mV a 0⟩
@[simp]def akS (c:Nat) (b:T):(Do .str c b).kV=b/\∀a,lj (Do .str c b) a=a[0]? :=⟨rfl,λa=>mV a 0⟩
@[simp]def akT (d c:Nat) (b:T):(Do (.slice d) c b).kV=b/\∀a,lj (Do (.slice d) c b) a=a[0]? :=⟨rfl,λa=>mV a 0⟩
@[simp]def akV (d c:Nat) (b:T):(Do (.eZ d) c b).kV=b/\∀a,lj (Do (.eZ d) c b) a=a[0]? :=⟨rfl,λa=>mV a 0⟩
@[simp]def akX (c:Nat) (b:T):(Do .func c b).kV=b/\∀a,lj (Do .func c b) a=a[0]? :=⟨rfl,λa=>mV a 0⟩
def js{b:ai}{cx:Ctx}{d:aj}{a:Func}(e:Nat)(c:DL)(f:b.funcs[d]? =D a)(g:A5 ⟨a,e,false,none⟩=true:=by kernel_rfl)(h:o8 c (a.body.getD .skip)=true:=by kernel_rfl):H6 b cx d a e c:=⟨f,g,h⟩
def gq(cx:Ctx)(c:Func)(f:Nat)(e:Bool):rS:=λb g a d=>wD cx b g c f e a d
def akq{a:ai}{cx:Ctx}(g:a.follows .mixedOrders)(j9:jP a cx){e:aj}{b:Func}{d:Nat}{c:Bool}(f:a.funcs[e]? =D b)(h:A5 ⟨b,d,c,none⟩=true:=by kernel_rfl):nh a cx e (gq cx b d c):=sr (F:=⟨b,d,c,none⟩) g j9 f h
end
end Go.TI
namespace Go.Proofs.YtnfojkibhgjfmaaGreatDoor
noncomputable section
open Go Go.TI
abbrev JB:Ty:=Tq .i64 8
abbrev Dp:Ty:=Tq .i64 8
abbrev XJ:Ty:=tyB
abbrev ty5:Ty:=Tq .u8 1
abbrev ty9:Ty:=tyZ
abbrev ajo:Ty:=Tq .i32 4
abbrev abm:Ty:=Dm 5
abbrev afl:Ty:=vV [(0,22),(1,22),(2,22),(3,5),(4,5)] 5 80 false [dT,dT,dT,.int .u8 0,.int .u8 0]
abbrev afj:Ty:=Tq .u16 2
abbrev afh:Ty:=Dm 170
abbrev afg:Ty:=Dm 172
abbrev afe:Ty:=Dm 164
abbrev XM:Ty:=Dm 9
abbrev afd:Ty:=Dm 174
abbrev afa:Ty:=vV [(0,26),(1,27),(2,28),(3,29),(4,29),(5,30)] 6 144 false [dT,dT,dT,dT,dT,dT]
abbrev ae7:Ty:=Dm 157
abbrev ae6:Ty:=Dm 4
abbrev Rq:Ty:=Dm 101
abbrev abl:Ty:=vV [(0,33),(1,3),(2,34),(3,35)] 4 80 false [dT,J 0,dT,dT]
abbrev XL:Ty:=Dm 2
abbrev pJ:Ty:=Dm 3
abbrev aeO:Ty:=vV [(0,37),(4,38),(5,38),(6,39)] 7 152 false [dT,J 0,dT,dT,dT,dT,dT]
abbrev abk:Ty:=Dm 93
abbrev aeK:Ty:=vV [(0,32),(6,3),(7,41),(14,42)] 15 328 false [dT,dT,dT,dT,dT,dT,J 0,dT,J 0,dT,dT,dT,dT,dT,dT]
abbrev aeJ:Ty:=vV [(0,3),(1,3),(2,3),(3,3),(4,3),(5,39)] 6 64 false [J 0,J 0,J 0,J 0,J 0,dT]
abbrev fq:Ty:=Dm 60
abbrev aeI:Ty:=Dm 90
abbrev aeH:Ty:=vV [(0,37),(4,54),(5,54),(6,39),(7,34),(8,39)] 9 200 false [dT,J 0,dT,dT,dT,dT,dT,dT,dT]
abbrev aeG:Ty:=vV [(0,3),(1,3)] 2 16 false [J 0,J 0]
abbrev aeF:Ty:=Dm 47
abbrev aeE:Ty:=vV [(0,32),(6,42)] 7 168 false [dT,dT,dT,dT,dT,dT,dT]
abbrev aeD:Ty:=Dm 44
abbrev aeC:Ty:=Tq .i64 8
abbrev eg:Ty:=vV [(0,56),(9,51)] 10 224 false [dT,J 0,dT,dT,dT,dT,dT,dT,dT,dT]
abbrev dO:Ty:=Dm 81
abbrev NB:Ty:=Do (.map 9 4) 8 (.pz)
abbrev E4:Ty:=vV [(0,2),(1,4)] 2 16 true [J 0,.ej false]
abbrev aeB:Ty:=vV [(0,3),(1,3),(2,3),(3,2),(4,3),(5,39),(6,39)] 7 88 false [J 0,J 0,J 0,J 0,J 0,dT,dT]
abbrev Ev:Ty:=vV [(0,3),(1,3),(2,4)] 3 24 false [J 0,J 0,.ej false]
abbrev FZ:Ty:=Dm 39
abbrev aaj:Ty:=To 110
abbrev aai:Ty:=vV [(0,22),(1,3)] 2 32 false [dT,J 0]
abbrev aah:Ty:=Dm 243
abbrev aag:Ty:=vV [(0,37),(4,38),(5,38),(6,116)] 7 152 false [dT,J 0,dT,dT,dT,dT,dT]
abbrev aaf:Ty:=Dm 214
abbrev aae:Ty:=vV [(0,32),(6,121)] 7 168 false [dT,dT,dT,dT,dT,dT,dT]
abbrev aad:Ty:=Dm 264
abbrev aac:Ty:=Dm 205
abbrev aab:Ty:=vV [(0,129),(1,130)] 2 48 false [dT,dT]
abbrev aaa:Ty:=Dm 37
abbrev Z9:Ty:=vV [(0,44),(15,137)] 16 352 false [dT,dT,dT,dT,dT,dT,J 0,dT,J 0,dT,dT,dT,dT,dT,dT,dT]
abbrev TJ:Ty:=K7 2 39 2 48 false (ao 2 (T.em [] false))
abbrev afq:Ty:=Do (.func) 8 (.mw)
abbrev Z8:Ty:=Do (.func) 8 (.mw)
abbrev K9:Ty:=vV [(0,3),(1,39)] 2 32 false [J 0,dT]
abbrev TG:Ty:=K7 2 54 2 48 false (ao 2 (T.em [] false))
abbrev Z7:Ty:=vV [(0,9),(1,3)] 2 24 false [.str [],J 0]
abbrev Z6:Ty:=Do (.func) 8 (.mw)
abbrev Z5:Ty:=vV [(0,9),(1,3),(2,3),(3,4),(4,2)] 5 48 false [.str [],J 0,J 0,.ej false,J 0]
abbrev Z4:Ty:=vV [(0,9),(1,4)] 2 24 false [.str [],.ej false]
abbrev Z3:Ty:=vV [(0,3),(1,3),(2,3)] 3 24 false [J 0,J 0,J 0]
abbrev afp:Ty:=Dm 259
abbrev afo:Ty:=To 195
abbrev afn:Ty:=vV [(0,190),(1,3)] 2 32 false [dT,J 0]
abbrev afm:Ty:=To 208
abbrev PM:Ty:=Dm 252
abbrev Z2:Ty:=vV [(0,9),(1,3),(2,29),(3,203)] 4 72 false [.str [],J 0,dT,dT]
abbrev Z1:Ty:=Dm 212
abbrev Z0:Ty:=vV [(0,32),(6,29),(7,206),(8,3),(9,3)] 10 208 false [dT,dT,dT,dT,dT,dT,dT,dT,J 0,J 0]
abbrev ZZ:Ty:=vV [(0,3),(1,3),(2,3),(3,3),(4,2),(5,3)] 6 48 false [J 0,J 0,J 0,J 0,J 0,J 0]
abbrev ZY:Ty:=vV [(0,3),(1,206)] 2 32 false [J 0,dT]
abbrev ZX:Ty:=Do (.func) 8 (.mw)
abbrev PL:Ty:=vV [(0,3),(1,38),(2,104),(3,3)] 4 64 false [J 0,dT,dT,J 0]
abbrev afk:Ty:=To 246
abbrev ZW:Ty:=vV [(0,108),(1,3),(2,3),(3,4),(4,4),(5,4),(6,4),(7,29)] 8 56 false [.mf,J 0,J 0,.ej false,.ej false,.ej false,.ej false,dT]
abbrev ZV:Ty:=Dm 250
abbrev ZU:Ty:=vV [(0,3),(1,2),(2,9),(3,248)] 4 56 false [J 0,J 0,.str [],dT]
abbrev K8:Ty:=vV [(0,3),(1,3),(2,9),(3,9),(4,248),(5,250),(9,203),(10,203)] 11 176 false [J 0,J 0,.str [],.str [],dT,J 0,J 0,.str [],dT,dT,dT]
abbrev afi:Ty:=vV [(0,3),(1,9),(2,3)] 3 32 false [J 0,.str [],J 0]
abbrev ZT:Ty:=vV [(0,3),(1,3),(2,9),(3,3),(4,2),(5,9)] 6 64 false [J 0,J 0,.str [],J 0,J 0,.str []]
abbrev aff:Ty:=To 274
abbrev ZS:Ty:=vV [(0,132),(2,3),(3,203),(4,29),(5,29)] 6 128 false [dT,dT,J 0,dT,dT,dT]
abbrev TF:Ty:=Tq .u64 8
abbrev IB:Ty:=Tq .u64 8
abbrev afc:Ty:=To 264
abbrev afb:Ty:=Tq .i64 8
abbrev ae9:Ty:=Tq .u32 4
abbrev ae8:Ty:=K7 24 5 24 24 false (ao 24 (T.int .u8 0))
abbrev ae5:Ty:=Tq .u64 8
abbrev ae4:Ty:=To 3
abbrev ae3:Ty:=K7 20 286 20 160 false (ao 20 (T.int .u64 0))
abbrev FY:Ty:=K7 65 5 65 65 false (ao 65 (T.int .u8 0))
abbrev ae2:Ty:=K7 22 9 22 352 false (ao 22 (T.str []))
abbrev ae1:Ty:=K7 256 4 256 256 false (ao 256 (T.ej false))
abbrev ae0:Ty:=To 363
abbrev aeZ:Ty:=Do (.iface) 16 (.mH)
abbrev aeY:Ty:=To 252
abbrev aeX:Ty:=Do (.func) 8 (.mw)
abbrev aeW:Ty:=K7 32 5 32 32 false (ao 32 (T.int .u8 0))
abbrev aeV:Ty:=K7 64 5 64 64 false (ao 64 (T.int .u8 0))
abbrev aeU:Ty:=Tq .i64 8
abbrev aeT:Ty:=To 409
abbrev aeS:Ty:=K7 256 5 256 256 false (ao 256 (T.int .u8 0))
abbrev aeR:Ty:=vV [(0,5),(1,5)] 2 2 false [.int .u8 0,.int .u8 0]
abbrev aeQ:Ty:=K7 16 402 32 32 false (ao 32 (T.int .u8 0))
abbrev aeP:Ty:=vV [(0,9),(1,9),(2,369)] 3 48 false [.str [],.str [],.mH]
abbrev aeN:Ty:=To 5
abbrev aeM:Ty:=To 414
abbrev aeL:Ty:=vV [(0,9)] 1 16 false [.str []]
def j9:Tree Ty:=(.fw (.fw (.fw (.fw (.fw (.fw (.fw .nil 2 (JB) .nil) 3 (Dp) (.fw .nil 4 (XJ) .nil)) 5 (ty5) (.fw (.fw .nil 9 (ty9) .nil) 21 (ajo) .nil)) 22 (abm) (.fw (.fw (.fw .nil 24 (afl) .nil) 25 (afj) (.fw .nil 26 (afh) .nil)) 27 (afg) (.fw (.fw .nil 28 (afe) .nil) 29 (XM) .nil))) 30 (afd) (.fw (.fw (.fw (.fw .nil 32 (afa) .nil) 33 (ae7) (.fw .nil 34 (ae6) .nil)) 35 (Rq) (.fw (.fw .nil 37 (abl) .nil) 38 (XL) .nil)) 39 (pJ) (.fw (.fw (.fw .nil 41 (aeO) .nil) 42 (abk) (.fw .nil 44 (aeK) .nil)) 47 (aeJ) (.fw (.fw .nil 51 (fq) .nil) 54 (aeI) .nil)))) 56 (aeH) (.fw (.fw (.fw (.fw (.fw .nil 60 (aeG) .nil) 65 (aeF) (.fw .nil 71 (aeE) .nil)) 73 (aeD) (.fw (.fw .nil 74 (aeC) .nil) 81 (eg) .nil)) 82 (dO) (.fw (.fw (.fw .nil 83 (NB) .nil) 90 (E4) (.fw .nil 93 (aeB) .nil)) 101 (Ev) (.fw (.fw .nil 104 (FZ) .nil) 108 (aaj) .nil))) 110 (aai) (.fw (.fw (.fw (.fw .nil 116 (aah) .nil) 118 (aag) (.fw .nil 121 (aaf) .nil)) 123 (aae) (.fw (.fw .nil 129 (aad) .nil) 130 (aac) .nil)) 132 (aab) (.fw (.fw (.fw .nil 137 (aaa) .nil) 139 (Z9) .nil) 143 (TJ) (.fw (.fw .nil 152 (afq) .nil) 154 (Z8) .nil))))) 157 (K9) (.fw (.fw (.fw (.fw (.fw (.fw .nil 158 (TG) .nil) 164 (Z7) (.fw .nil 166 (Z6) .nil)) 170 (Z5) (.fw (.fw .nil 172 (Z4) .nil) 174 (Z3) .nil)) 190 (afp) (.fw (.fw (.fw .nil 193 (afo) .nil) 195 (afn) (.fw .nil 202 (afm) .nil)) 203 (PM) (.fw (.fw .nil 205 (Z2) .nil) 206 (Z1) .nil))) 208 (Z0) (.fw (.fw (.fw (.fw .nil 212 (ZZ) .nil) 214 (ZY) (.fw .nil 220 (ZX) .nil)) 243 (PL) (.fw (.fw .nil 244 (afk) .nil) 246 (ZW) .nil)) 248 (ZV) (.fw (.fw (.fw .nil 250 (ZU) .nil) 252 (K8) (.fw .nil 259 (afi) .nil)) 264 (ZT) (.fw (.fw .nil 272 (aff) .nil) 274 (ZS) .nil)))) 284 (TF) (.fw (.fw (.fw (.fw (.fw .nil 286 (IB) .nil) 300 (afc) (.fw .nil 313 (afb) .nil)) 321 (ae9) (.fw (.fw .nil 324 (ae8) .nil) 348 (ae5) .nil)) 352 (ae4) (.fw (.fw (.fw .nil 355 (ae3) .nil) 356 (FY) (.fw .nil 360 (ae2) .nil)) 363 (ae1) (.fw (.fw .nil 367 (ae0) .nil) 369 (aeZ) .nil))) 373 (aeY) (.fw (.fw (.fw (.fw .nil 374 (aeX) .nil) 390 (aeW) (.fw .nil 391 (aeV) .nil)) 393 (aeU) (.fw (.fw .nil 396 (aeT) .nil) 400 (aeS) .nil)) 402 (aeR) (.fw (.fw (.fw .nil 403 (aeQ) .nil) 409 (aeP) .nil) 411 (aeN) (.fw (.fw .nil 412 (aeM) .nil) 414 (aeL) .nil))))))
def kl0:List Int:=[1,10,100,1000,10000,100000,1000000,10000000,100000000,1000000000,10000000000,100000000000,1000000000000,10000000000000,100000000000000,1000000000000000,10000000000000000,100000000000000000,1000000000000000000,10000000000000000000]
def gl0:List T:=kl0.map (T.int .u64)
def gl1:List T:=[T.str [118,97,114],T.str [118,111,108,97,116,105,108,101],T.str [109,117,116,101,120],T.str [114,119,108,111,99,107],T.str [99,111,110,100],T.str [102,117,116,117,114,101],T.str [116,104,114,101,97,100],T.str [105,102],T.str [101,108,115,101],T.str [119,104,105,108,101],T.str [108,111,99,107],T.str [114,101,97,100],T.str [119,114,105,116,101],T.str [116,114,97,110,115,97,99,116,105,111,110],T.str [97,116,111,109,105,99],T.str [119,97,105,116],T.str [110,111,116,105,102,121],T.str [110,111,116,105,102,121,97,108,108],T.str [115,112,97,119,110],T.str [106,111,105,110],T.str [115,101,116],T.str [103,101,116]]
def kl3:List Int:=[0,1,28,2,29,14,24,3,30,22,20,15,25,17,4,8,31,27,13,23,21,19,16,7,26,12,18,6,11,5,10,9]
def gl3:List T:=kl3.map (T.int .u8)
def kl4:List Int:=[0,1,56,2,57,49,28,3,61,58,42,50,38,29,17,4,62,47,59,36,45,43,51,22,53,39,33,30,24,18,12,5,63,55,48,27,60,41,37,16,46,35,44,21,52,32,23,11,54,26,40,15,34,20,31,10,25,14,19,9,13,8,7,6]
def gl4:List T:=kl4.map (T.int .u8)
def gls:Tree (List T):=(.fw (.fw (.fw .nil 0 (gl0) .nil) 1 (gl1) .nil) 3 (gl3) (.fw .nil 4 (gl4) .nil))
def cx:Ctx:={ty:=λb=>j9.find b,fn:=λ_=>none,gl:=λa=>gls.find a}
@[simp]def Bb:cx.ty 2=D JB:=dW
@[simp]def nc:cx.ty 3=D Dp:=dW
@[simp]def Jj:cx.ty 4=D XJ:=dW
@[simp]def EW:cx.ty 5=D ty5:=dW
@[simp]def xL:cx.ty 9=D ty9:=dW
@[simp]def Ei:cx.ty 22=D abm:=dW
@[simp]def Pa:cx.ty 24=D afl:=dW
@[simp]def V5:cx.ty 25=D afj:=dW
@[simp]def ac7:cx.ty 26=D afh:=dW
@[simp]def V4:cx.ty 27=D afg:=dW
@[simp]def ac6:cx.ty 28=D afe:=dW
@[simp]def un:cx.ty 29=D XM:=dW
@[simp]def ac5:cx.ty 30=D afd:=dW
@[simp]def akB:cx.ty 32=D afa:=dW
@[simp]def KC:cx.ty 33=D ae7:=dW
@[simp]def Eh:cx.ty 34=D ae6:=dW
@[simp]def HG:cx.ty 35=D Rq:=dW
@[simp]def ac4:cx.ty 37=D abl:=dW
@[simp]def rO:cx.ty 38=D XL:=dW
@[simp]def kE:cx.ty 39=D pJ:=dW
@[simp]def akA:cx.ty 41=D aeO:=dW
@[simp]def V3:cx.ty 42=D abk:=dW
@[simp]def ac3:cx.ty 44=D aeK:=dW
@[simp]def KB:cx.ty 47=D aeJ:=dW
@[simp]def KA:cx.ty 51=D fq:=dW
@[simp]def BO:cx.ty 54=D aeI:=dW
@[simp]def akz:cx.ty 56=D aeH:=dW
@[simp]def Kz:cx.ty 60=D aeG:=dW
@[simp]def Ky:cx.ty 65=D aeF:=dW
@[simp]def aky:cx.ty 71=D aeE:=dW
@[simp]def ac1:cx.ty 73=D aeD:=dW
@[simp]def akx:cx.ty 74=D aeC:=dW
@[simp]def acZ:cx.ty 81=D eg:=dW
@[simp]def acY:cx.ty 82=D dO:=dW
@[simp]def O9:cx.ty 83=D NB:=dW
@[simp]def HF:cx.ty 90=D E4:=dW
@[simp]def V2:cx.ty 93=D aeB:=dW
@[simp]def FD:cx.ty 101=D Ev:=dW
@[simp]def QL:cx.ty 104=D FZ:=dW
@[simp]def aiW:cx.ty 108=D aaj:=dW
@[simp]def aiV:cx.ty 110=D aai:=dW
@[simp]def QJ:cx.ty 116=D aah:=dW
@[simp]def aiU:cx.ty 118=D aag:=dW
@[simp]def Zb:cx.ty 121=D aaf:=dW
@[simp]def aiT:cx.ty 123=D aae:=dW
@[simp]def aiS:cx.ty 129=D aad:=dW
@[simp]def Za:cx.ty 130=D aac:=dW
@[simp]def aiR:cx.ty 132=D aab:=dW
@[simp]def Y9:cx.ty 137=D aaa:=dW
@[simp]def aiQ:cx.ty 139=D Z9:=dW
@[simp]def aiP:cx.ty 143=D TJ:=dW
@[simp]def aiO:cx.ty 154=D Z8:=dW
@[simp]def FC:cx.ty 157=D K9:=dW
@[simp]def aiN:cx.ty 158=D TG:=dW
@[simp]def Y8:cx.ty 164=D Z7:=dW
@[simp]def aiM:cx.ty 166=D Z6:=dW
@[simp]def Y7:cx.ty 170=D Z5:=dW
@[simp]def QI:cx.ty 172=D Z4:=dW
@[simp]def Y6:cx.ty 174=D Z3:=dW
@[simp]def CX:cx.ty 203=D PM:=dW
@[simp]def Y5:cx.ty 205=D Z2:=dW
@[simp]def QH:cx.ty 206=D Z1:=dW
@[simp]def aiL:cx.ty 208=D Z0:=dW
@[simp]def Y4:cx.ty 212=D ZZ:=dW
@[simp]def Y3:cx.ty 214=D ZY:=dW
@[simp]def aiK:cx.ty 220=D ZX:=dW
@[simp]def QG:cx.ty 243=D PL:=dW
@[simp]def aiJ:cx.ty 246=D ZW:=dW
@[simp]def aiI:cx.ty 248=D ZV:=dW
@[simp]def aiH:cx.ty 250=D ZU:=dW
@[simp]def CW:cx.ty 252=D K8:=dW
@[simp]def aiG:cx.ty 264=D ZT:=dW
@[simp]def aiF:cx.ty 274=D ZS:=dW
@[simp]def Y2:cx.ty 284=D TF:=dW
@[simp]def QF:cx.ty 286=D IB:=dW
@[simp]def aiE:cx.ty 356=D FY:=dW
