/- TiQuick -/
import Derived.Test.YtalknpnbaceflaaGreatDoorA5
import Derived.KernelRfl
set_option linter.all false
namespace Go.TI
noncomputable section
section
def Oa(a:Fun):Code:=Option.casesOn a.fn.body .skip λb=>b
section
variable {D nt:Nat}{K:List Nat}{pre:List T}
end
section
variable {P:List T->Prop}
end
end
mutual
def AY:T->T->Bool
 | .undef,a=>(match a with| .undef=>true|_=>false)
 | .ez y,a=>(match a with| .ez n=>Bool.casesOn y (!n) n|_=>false)
 | .int o q,a=>(match a with| .int p r=>decide (o=p)&&decide (q=r)|_=>false)
 | .str s,a=>(match a with| .str t=>decide (s=t)|_=>false)
 | .lU,a=>(match a with| .lU=>true|_=>false)
 | .my,a=>(match a with| .my=>true|_=>false)
 | .mB,a=>(match a with| .mB=>true|_=>false)
 | .pS,a=>(match a with| .pS=>true|_=>false)
 | .iX,a=>(match a with| .iX=>true|_=>false)
 | .fc a h j l,b=>(match b with| .fc d i k m=>Nat.beq a d&&Nat.beq h i&&Nat.beq j k&&Nat.beq l m|_=>false)
 | .arr a h j l g,b=>(match b with| .arr d i k m c=>Nat.beq a d&&Nat.beq h i&&Nat.beq j k&&Nat.beq l m&&Bool.casesOn g (!c) c|_=>false)
 | .map a,b=>(match b with| .map d=>Nat.beq a d|_=>false)
 | .V e g,b=>(match b with| .V f c=>Eb e f&&Bool.casesOn g (!c) c|_=>false)
 | .eZ e,b=>(match b with| .eZ f=>Eb e f|_=>false)
 | .func g e,b=>(match b with| .func c f=>Nat.beq g c&&Eb e f|_=>false)
 | .iface u w,b=>(match b with| .iface v x=>Nat.beq u v&&AY w x|_=>false)
 |_,_=>false
def Eb:List T->List T->Bool
 | [],a=>(match a with| []=>true|_=>false)
 |x::b,a=>(match a with|y::c=>AY x y&&Eb b c|_=>false)
end
def N8{b a:Bool}(c:(@Bool.rec (λ_=>Bool) (!a) a b)=true):b=a:=by cases b<;>cases a<;>simp_all
mutual
def NM:(h b:T)->AY h b=true->h=b
 | .undef,b,a=>by cases b<;>first|rfl|simp[AY]at a
 | .ez z,b,a=>by
  cases b<;>first|(simp[AY]at a;done)|skip
  rename_i n;have a:(@Bool.rec (λ_=>Bool) (!n) n z)=true:=by grind [AY]
  rw[N8 a]
 | .int A D,b,a=>by cases b<;>simp[AY]at a;grind
 | .str E,b,a=>by cases b<;>simp[AY]at a;grind
 | .lU,b,a=>by cases b<;>first|rfl|simp[AY]at a
 | .my,b,a=>by cases b<;>first|rfl|simp[AY]at a
 | .mB,b,a=>by cases b<;>first|rfl|simp[AY]at a
 | .pS,b,a=>by cases b<;>first|rfl|simp[AY]at a
 | .iX,b,a=>by cases b<;>first|rfl|simp[AY]at a
 | .fc b i j k,c,a=>by cases c<;>simp[AY]at a;grind
 | .arr b i j k g,c,a=>by
  cases c<;>first|(simp[AY]at a;done)|skip
  rename_i o p v w f;have a:(Nat.beq b o&&Nat.beq i p&&Nat.beq j v&&Nat.beq k w&& @Bool.rec (λ_=>Bool) (!f) f g)=true:=by grind [AY]
  simp only[az]at a;obtain⟨⟨⟨⟨q,r⟩,s⟩,t⟩,u⟩:=a;rw[aH q,aH r,aH s,aH t,N8 u]
 | .map b,c,a=>by cases c<;>simp[AY]at a;grind
 | .V d g,c,a=>by
  cases c<;>first|(simp[AY]at a;done)|skip
  rename_i e f;have a:(Eb d e&& @Bool.rec (λ_=>Bool) (!f) f g)=true:=by grind [AY]
  simp only[az]at a;rw[Ey d e a.1,N8 a.2]
 | .eZ d,c,a=>by
  cases c<;>first|(simp[AY]at a;done)|skip
  rename_i e;have a:Eb d e=true:=by grind [AY]
  rw[Ey d e a]
 | .func g d,c,a=>by
  cases c<;>first|(simp[AY]at a;done)|skip
  rename_i f e;have a:(Nat.beq g f&&Eb d e)=true:=by grind [AY]
  simp only[az]at a;rw[aH a.1,Ey d e a.2]
 | .iface x l,c,a=>by
  cases c<;>first|(simp[AY]at a;done)|skip
  rename_i y m;have a:(Nat.beq x y&&AY l m)=true:=by grind [AY]
  simp only[az]at a;rw[aH a.1,NM l m a.2]
 | .ks _,b,a=>by grind [AY]
 | .iter _,b,a=>by grind [AY]
 | .tuple _,b,a=>by grind [AY]
def Ey:(c a:List T)->Eb c a=true->c=a
 | [],a,b=>by cases a<;>first|rfl|grind [Eb]
 |x::d,a,b=>by
  cases a<;>first|(simp[Eb]at b;done)|skip
  rename_i e f;have b:(AY x e&&Eb d f)=true:=by grind [Eb]
  simp only[az]at b;rw[NM x e b.1,Ey d f b.2]
end
structure Ent where
 f:Nat
 args:List T
 h:H
 r:T
 h':H
def sg(d:aj)(cx:Ctx)(a:Ent):Prop:=
 ∀e b c (g:ah aq),St cx e b.heap c a.h->iW b.heap c a.args g.toList->Cu d (tT cx e b c a.h a.r a.h') ((callFunc a.f g).run d b)
mutual
def oQ:T->Bool
 | .undef| .ez _| .int _ _| .str _| .lU| .iX| .my| .mB| .pS=>true
 | .V a _=>nK a
 | .eZ a=>nK a
 | .tuple a=>nK a
 | .ks a=>nK a
 | .func _ a=>nK a
 | .iface _ b=>oQ b
 |_=>false
def nK:List T->Bool
 | []=>true
 |x::a=>oQ x&&nK a
end
mutual
def FR:(c:T)->oQ c=true->sa 0 c
 | .undef,_=> .undef
 | .ez _,_=> .ez _
 | .int _ _,_=> .int _ _
 | .str _,_=> .str _
 | .lU,_=> .lU
 | .iX,_=> .iX
 | .my,_=> .my
 | .mB,_=> .mB
 | .pS,_=> .pS
 | .V a h,b=> .V _ _ λc f=>by
  have⟨d,e,g⟩:=List.mem_flatMap.1 f;exact(mD a (by grind [oQ]) d e).cells c g
 | .eZ a,b=> .eZ _ (mD a (by grind [oQ]))
 | .tuple a,b=> .tuple _ (mD a (by grind [oQ]))
 | .ks a,b=> .ks _ (mD a (by grind [oQ]))
 | .func _ a,b=> .func _ _ (mD a (by grind [oQ]))
 | .iface _ c,b=> .iface _ _ (FR c (by grind [oQ]))
 | .fc _ _ _ _,b=>by grind [oQ]
 | .arr _ _ _ _ _,b=>by grind [oQ]
 | .iter _,b=>by grind [oQ]
 | .map _,b=>by grind [oQ]
def mD:(d:List T)->nK d=true->∀c∈d,sa 0 c
 | [],_=>λc b=>by grind
 |x::g,a=>λc b=>by
  unfold nK at a;rw[az]at a;have e:=FR x a.1;rcases List.mem_cons.1 b with f|b
  ·rw[f];exact e
  ·exact mD g a.2 c b
end
def iu.move{y:ah Obj}{z A:Mu}{b:T}{l:aq}(a:iu y z b l)(x:∀n,pG A n->pG z n)(hl:sa 0 b):iu y A b l:=by
 induction a with
 |undef=>exact .undef
 |ez h=>exact .ez h
 |int c M=>exact .int c M
 |str N a=>exact .str N a
 |lU=>exact .lU
 |fc h F n S o g s J R=>cases hl with|fc _ _ _ _ a=>omega
 |ks r p off arr k fz u t f j hr e=>
  cases hl with|ks _ a=>exact .ks r p off arr k fz (λc=>u (x _ c)) t f j λc b d=>e c b d (a b (aC d))
 |pP m g=>exact .pP m g
 |V E H m p off q O arr k fz u t w K L f j hr e=>
  cases hl with|V _ _ a=>exact .V E H m p off q O arr k fz (λc=>u (x _ c)) t w K L f j λc b d=>e c b d (a b (aC d))
 |iX g q=>exact .iX g q
 |arr h F W U m o g Q s J w v=>cases hl with|arr _ _ _ _ _ a=>omega
 |func I D i f hr e=>cases hl with|func _ _ a=>exact .func I D i f λc b d=>e c b d (a b (aC d))
 |my=>exact .my
 |mB=>exact .mB
 |iface k b l a e=>cases hl with|iface _ _ a=>exact .iface k b l (e a)
 |iter h o g s v=>cases hl with|iter _ a=>omega
 |map h o n s v=>cases hl with|map _ a=>omega
 |pS=>exact .pS
 |eZ r i f j hr e=>cases hl with|eZ _ a=>exact .eZ r i f j λc b d=>e c b d (a b (aC d))
 |tuple P i f hr e=>cases hl with|tuple _ a=>exact .tuple P i f λc b d=>e c b d (a b (aC d))
def mM(d:aj)(cx:Ctx)(h:Nat)(g:List T)(i:T):Prop:=
 ∀e a c (f:ah aq) (b:H),St cx e a.heap c b->iW a.heap c g f.toList->Cu d (tT cx e a c b i b) ((callFunc h f).run d a)
def Fk{s:aj}{cx:Ctx}{u:Nat}{k:List T}{z:T}{v:H}(hl:∀i∈k,sa 0 i)(N:v.size=0)(F:sg s cx ⟨u,k,⟨0,0,[]⟩,z,v⟩):mM s cx u k z:=by
 intro V h f t W e w;have q:∀a,pG ⟨λ_=>none,pG f⟩ a->pG f a:=by
  rintro a (⟨d,b,c,_⟩|hr)
  ·grind
  omega
 have I:∀a,pG f a->a<h.heap.size:=by
  rintro a (⟨d,b,c,rfl⟩|hr)
  ·exact e.lt c
  ·exact e.tV a hr
 have P:St cx h.heap.size h.heap ⟨λ_=>none,pG f⟩ ⟨0,0,[]⟩:=by
  refine⟨rfl,ax _,λd b c=>by grind,λd U b S c=>by simp,λd b c=>by grind,λd b c=>by grind,λa hr=>I a hr,λn m p=>?_⟩;have:=e.B7 n m p;refine this.move q ?_;have⟨_,_,_,_,_,_,_,_,_,L,_⟩:=this.nM;exact .ks _ λi l=>(L i l).2.low 0
 have D:iW h.heap ⟨λ_=>none,pG f⟩ k t.toList:=⟨w.1,λr i l=>(w.2 r i l).move q (hl i (aC l))⟩;refine(F h.heap.size h ⟨λ_=>none,pG f⟩ t P D).mono λi A ⟨⟨R,y,O,g,Z⟩,ab⟩=>?_;have K:∀a,pG f a->pG R a:=λa j=> .inr (by rw[g.ext.rf];exact j);have o:Ext h.heap f A.heap f:=by
  refine⟨g.ext.size,λa j x=>⟨(g.ext.pN a j (λr=>x (q a r))).1,x⟩,λd b c=>⟨b,c,.inl rfl⟩,rfl,λa j hr=>?_⟩;exact g.ext.kept a j (.inr hr)
 have E:∀d b,f d=some b->A.heap[b.jO]? =h.heap[b.jO]? :=λd b c=>g.ext.kept b.jO (e.lt c) (.inl ⟨d,b,c,rfl⟩);refine⟨⟨f,y.move K (y.low λd b c=>N▸O.gh c),⟨e.wf,aU e.fit g.ext.size,λd b c=>?_,e.inj,e.low,e.apart,λa hr=>bK (e.tV a hr) g.ext.size,λn m p=>(e.B7 n m p).ext o⟩,⟨o,g.os,g.tape,g.output⟩,Bb.refl _ _⟩,mR.refl e.wf⟩;have⟨Q,M,J⟩:=e.box d b c;exact⟨Q,M,J.ext o (E d b c)⟩
def DQ:List T->List T->Bool
 | [],a=>(match a with| []=>true|_=>false)
 |x::b,a=>(match a with|y::c=>DQ b c&&AY x y|_=>false)
def BH{b:aj}{cx:Ctx}{c:Nat}{a:List T}{d:T}(hl:∀f∈a,sa 0 f)(e:sg b cx ⟨c,a,⟨0,0,[]⟩,d,⟨0,0,[]⟩⟩):mM b cx c a d:=Fk hl rfl e
def UD:∀(b a:List T),DQ b a=true->b=a:=by
 intro b;induction b with
 |nil=>intro a c;cases a<;>first|rfl|grind [DQ]
 |cons f g d=>
  intro a c;cases a with
  |nil=>grind [DQ]
  |cons h e=>
   simp only[DQ,az]at c;rw[NM _ _ c.2,d e c.1]
abbrev yi:=List (Nat×List (List T×T))
def Ip(e:List (List T×T))(b:List T):aa T:=
 @List.rec (List T×T) (λ_=>aa T) none (λc _ d=>Prod.casesOn c λa f=> @Bool.rec (λ_=>aa T) d (some f) (DQ b a)) e
def DP(h:yi)(d:Nat)(b:List T):aa T:=
 @List.rec (Nat×List (List T×T)) (λ_=>aa T) none (λc _ a=>Prod.casesOn c λe f=> @Bool.rec (λ_=>aa T) a (Option.casesOn (Ip f b) a λg=>some g) (Nat.beq d e)) h
inductive Ba (P:aj) (cx:Ctx):yi->Prop where
 |nil:Ba P cx []
 |new {f:Nat} {t:yi}:Ba P cx t->Ba P cx ((f,[])::t)
 |ent {f:Nat} {a:List T} {r:T} {l:List (List T×T)} {t:yi}:mM P cx f a r->Ba P cx ((f,l)::t)->Ba P cx ((f,(a,r)::l)::t)
def Ba.mem{a:aj}{cx:Ctx}{f:yi}(g:Ba a cx f):∀c d,(c,d)∈f->∀b e,(b,e)∈d->mM a cx c b e:=by
 induction g with
 |nil=>simp
 |new _ h=>
  grind
 |ent i _ h=>
  grind
theorem Rs{c:List (List T×T)}{b:List T}{d:T}(a:Ip c b=some d):(b,d)∈c:=by
 induction c with
 |nil=>grind [Ip]
 |cons g c h=>
  obtain⟨f,r1⟩:=g;have a: @Bool.rec (λ_=>aa T) (Ip c b) (some r1) (DQ b f)=some d:=a;cases e:DQ b f with
  |false=>rw[e]at a;grind
  |true=>
   rw[e]at a;have a:some r1=some d:=a;simp only[aw]at a;subst a;rw[UD _ _ e];simp
def Rr{e:yi}{c:Nat}{b:List T}{d:T}(a:DP e c b=some d):∃f,(c,f)∈e/\(b,d)∈f:=by
 induction e with
 |nil=>grind [DP]
 |cons k e m=>
  obtain⟨g,f⟩:=k;have a: @Bool.rec (λ_=>aa T) (DP e c b) (@Option.rec T (λ_=>aa T) (DP e c b) (λd=>some d) (Ip f b)) (Nat.beq c g)=some d:=a;have o:DP e c b=some d->∃j,(c,j)∈(g,f)::e/\(b,d)∈j:=λn=>by
   grind
  cases h:Nat.beq c g with
  |false=>rw[h]at a;grind
  |true=>
   rw[h]at a;cases i:Ip f b with
   |none=>rw[i]at a;grind
   |some l=>
    rw[i]at a;have a:some l=some d:=a;simp only[aw]at a;subst a;rw[aH h]
    grind [Rs,List.mem_cons_self]
def Um(h:yi)(ft:ak->aa tH):ak->aa tH:=λb=>
 Option.casesOn (ft b) none λe=>some λd f a c=>Option.casesOn (DP h b a) (e d f a c) λg=>some (g,c)
def Ul{i:aj}{cx:Ctx}{h:yi}{ft:ak->aa tH}(y:Ba i cx h)(z:∀a c,ft a=some c->oh i cx a c):∀a c,Um h ft a=some c->oh i cx a c:=by
 intro a c f;unfold Um at f;cases k:ft a with
 |none=>rw[k]at f;grind
 |some o=>
  rw[k]at f;simp only[aw]at f;subst f;intro n v q d e g j b l t u m s p;have b: @Option.rec T (λ_=>aa (T×H)) (o n q d e) (λg=>some (g,e)) (DP h a d)=some (g,j):=b;cases hE:DP h a d with
  |none=>rw[hE]at b;exact z a o k n v q d e g j b l t u m s p
  |some r=>
   rw[hE]at b;have b:some (r,e)=some (g,j):=b;simp only[aw,aF]at b;obtain⟨rfl,rfl⟩:=b;have⟨A,w,x⟩:=Rr hE;exact y.mem a A w d r x l t u m e s p
def Ay(b:yi)(ft:ak->aa tH)(a:Nat):jQ:=LX (Um b ft) a
def LW{a:aj}{cx:Ctx}{e:yi}{ft:ak->aa tH}(f:Ba a cx e)(g:∀b c,ft b=some c->oh a cx b c)(d:Nat):pL a cx (Ay e ft d):=DR (Ul f g) d
def Ba.next{c:aj}{cx:Ctx}{f:yi}{ft:ak->aa tH}(n:∀a g,ft a=some g->oh c cx a g){i:Nat}{a:Nat}{d:List (List T×T)}(h:Ba c cx ((a,d)::f)){b:List T}{e:T}
 (hl:nK b=true) (m:Ay ((a,d)::f) ft i a b ⟨0,0,[]⟩=some (e,⟨0,0,[]⟩)):Ba c cx ((a,(b,e)::d)::f):=
 .ent (BH (mD b hl) λj p q k o l=>LW h n i a b ⟨0,0,[]⟩ e ⟨0,0,[]⟩ m j p q k o l) h
section
def put(a:iM)(b:Nat)(d:T):iM:=(nG a b d).getD a
def rH(d:iM)(a:Nat)(c:T):nG d a c=some (put d a c):=by
 have:∃b,nG d a c=some b:=by
  induction d with
  |nil=>exact⟨_,rfl⟩
  |cons e i b g=>
   obtain⟨h,ht⟩:=g;cases f:Nat.beq e a with
   |true=>exact⟨.cons e c b,by show @Bool.rec (λ_=>aa iM) _ _ (Nat.beq e a)=_;rw[f]⟩
   |false=>simp_all[nG,J]
 obtain⟨b,hr⟩:=this;rw[hr];unfold put;rw[hr];rfl
def nZ(b:Nat)(d:T)(c:iM)(a:Nat):M (.cons b d c) a=if b=a then some d else M c a:=by
 show @Bool.rec (λ_=>aa T) (M c a) (some d) (Nat.beq b a)=_;cases e:Nat.beq b a with
 |true=>rw[au (aH e)]
 |false=>rw[Z (db e)]
def Ic(a:Nat):M .nil a=none:=rfl
def Up(g:iM)(b:Nat)(c:T)(i:Nat):M (put g b c) i=if b=i then some c else M g i:=by
 have a:=rH g b c;generalize put g b c=f at a;induction g generalizing f with
 |nil=>
  have a:some (iM.cons b c .nil)=some f:=a;simp only[aw]at a;subst a;rw[nZ,Ic]
 |cons e j d k=>
  have a: @Bool.rec (λ_=>aa iM) (J (nG d b c) λd=>some (.cons e j d)) (some (.cons e c d)) (Nat.beq e b)=some f:=a;cases h:Nat.beq e b with
  |true=>
   rw[h]at a;have a:some (iM.cons e c d)=some f:=a;simp only[aw]at a;subst a;have:=aH h;subst this;simp only[nZ];split<;>rfl
  |false=>
   rw[h]at a;have a:(J (nG d b c) λd=>some (iM.cons e j d))=some f:=a;rw[rH]at a;simp only[fw,aw]at a;subst a;have:=db h;rw[nZ,nZ,k _ (rH _ _ _)]
   grind
structure jE where
 n:Env->H->Prop
 x:Nat->Env->H->Prop
 r:Env->H->Prop
def W(f:Out)(c:jE):Prop:=∃d a b,f=some (d,a,b)/\Ex.casesOn d (c.n a b) (λe=>c.x e a b) (c.r a b)
@[simp]def GU (a:Env) (b:H) (d:jE):W (some (.normal,a,b)) d=d.n a b:=by
 apply propext;constructor
 ·rintro⟨h,f,g,e,c⟩;simp only[aw,aF]at e;obtain⟨rfl,rfl,rfl⟩:=e;exact c
 ·exact λc=>⟨_,a,b,rfl,c⟩
@[simp]def JY (f:Nat) (a:Env) (b:H) (d:jE):W (some (.exit f,a,b)) d=d.x f a b:=by
 apply propext;constructor
 ·rintro⟨i,g,h,e,c⟩;simp only[aw,aF]at e;obtain⟨rfl,rfl,rfl⟩:=e;exact c
 ·exact λc=>⟨_,a,b,rfl,c⟩
@[simp]def afU (a:Env) (b:H) (d:jE):W (some (.ret,a,b)) d=d.r a b:=by
 apply propext;constructor
 ·rintro⟨h,f,g,e,c⟩;simp only[aw,aF]at e;obtain⟨rfl,rfl,rfl⟩:=e;exact c
 ·exact λc=>⟨_,a,b,rfl,c⟩
def Vz(a:jE):¬W none a:=by rintro⟨e,b,c,d,_⟩;grind
def I9(b:Env->H->Out)(a:jE):jE:=⟨λc d=>W (b c d) a,a.x,a.r⟩
def uO(id:Nat)(a:jE):jE:=⟨a.n,λd b c=>if d=id then a.n b c else a.x d b c,a.r⟩
def AR(b:Env->H->Prop)(a:jE):jE:=⟨b,a.x,a.r⟩
@[simp]theorem ais (b:Env->H->Out) (a:jE) (c:Env) (d:H):(I9 b a).n c d=W (b c d) a:=rfl
@[simp]theorem aaU (e:Env->H->Out) (a:jE) (d:Nat) (b:Env) (c:H):(I9 e a).x d b c=a.x d b c:=rfl
@[simp]theorem air (d:Env->H->Out) (a:jE) (b:Env) (c:H):(I9 d a).r b c=a.r b c:=rfl
@[simp]theorem ae1 (id:Nat) (a:jE) (b:Env) (c:H):(uO id a).n b c=a.n b c:=rfl
@[simp]theorem B2 (id:Nat) (a:jE) (d:Nat) (b:Env) (c:H):(uO id a).x d b c=if d=id then a.n b c else a.x d b c:=rfl
@[simp]theorem ae0 (id:Nat) (a:jE) (b:Env) (c:H):(uO id a).r b c=a.r b c:=rfl
@[simp]theorem aiv (a:Env->H->Prop) (d:jE) (b:Env) (c:H):(AR a d).n b c=a b c:=rfl
@[simp]theorem ait (e:Env->H->Prop) (a:jE) (d:Nat) (b:Env) (c:H):(AR e a).x d b c=a.x d b c:=rfl
@[simp]theorem aiu (d:Env->H->Prop) (a:jE) (b:Env) (c:H):(AR d a).r b c=a.r b c:=rfl
@[simp]def afT (c e:Env->H->Out) (a:Env) (b:H) (d:jE):W (E1 c e a b) d=W (c a b) (I9 e d):=by
 apply propext;unfold E1;cases k:c a b with
 |none=>constructor<;>(rintro⟨f,a,b,g,_⟩;simp[J]at g)
 |some h=>
  obtain⟨f,i,j⟩:=h;simp only[fw,nC];cases f<;>simp
@[simp]def Yf (id:Nat) (g:Env->H->Out) (b:Env) (d:H) (a:jE):W (A6 id g b d) a=W (g b d) (uO id a):=by
 apply propext;unfold A6;cases l:g b d with
 |none=>constructor<;>(rintro⟨i,b,d,j,_⟩;simp[J]at j)
 |some k=>
  obtain⟨i,c,e⟩:=k;simp only[fw,nC];cases i with
  |normal=>simp
  |ret=>simp
  |exit f=>
   show W (@Bool.rec (λ_=>Out) (some (.exit f,c,e)) (some (.normal,c,e)) (Nat.beq f id)) a↔_;cases h:Nat.beq f id with
   |true=>
    show W (some (.normal,c,e)) a↔_;rw[GU,JY,B2,au (aH h)]
   |false=>
    show W (some (.exit f,c,e)) a↔_;rw[JY,JY,B2,Z (db h)]
def UP(d:aa T)(a b:Prop):Prop:=match d with
 |some (.ez c)=>if c=true then a else b
 |_=>False
def VB{σ:Type}{g:Env->H->Out}(I:σ->Env->H->Prop)(m:σ->Nat){h:jE}
 (n:∀c a b,I c a b->W (g a b) (AR (λe f=>∃i,m i<m c/\I i e f) h)):
 ∀d c a b,m c<d->I c a b->W (qt g d a b) h:=by
 intro d;induction d with
 |zero=>omega
 |succ d w=>
  intro c a b u l;have⟨j,r,s,o,p⟩:=n c a b l;show W (J (g a b) λq=>three q λj e f=> @Ex.rec (λ_=>Out) (qt g d e f) (λk=>some (.exit k,e,f)) (some (.ret,e,f)) j) h;rw[o];simp only[fw,nC];cases j with
  |normal=>
   obtain⟨i,v,t⟩:=p
   grind
  |exit k=>simp_all
  |ret=>simp_all
section
variable {P:aj}{cx:Ctx}
end
end
@[simp]theorem agS (c:jQ) (d a:H) (b:T):fin c d (some (.val b a))=some (b,a):=rfl
@[simp]theorem afs (b:jQ) (d:H) (c:ak) (a:List T):fin b d (some (.call c a))=b c a d:=rfl
@[simp]theorem Bh (a:H) (b:T):val a (some b)=some (.val b a):=rfl
@[simp]theorem Ke (a:H) (b:T):kr (some (b,a))=some (.val b a):=rfl
def Xr(a b:List Nat):Zu a b=decide (a=b):=by rw[Jt,bJ];simp
def Xs(a b:Int):VW a b=decide (a=b):=by rw[AZ];rfl
def zx(a b:Int):O9 a b=decide (a<b):=AQ a b
@[simp]theorem uP (a:ao):G6 a a=true:=by cases a<;>rfl
@[simp]theorem NO (d a:ao) (b c:Int):uU (.int d) (.int a b) (.int a c)=some (decide (b=c)):=by
 show iS (G6 a a) (some (VW b c))=_;rw[uP,Xs];rfl
@[simp]def abd (a b:List Nat):uU .str (.str a) (.str b)=some (decide (a=b)):=by
 show some (Zu a b)=_;rw[Xr]
@[simp]theorem LJ (a b:Bool):uU .ez (.ez a) (.ez b)=some (a==b):=by cases a<;>cases b<;>rfl
@[simp]def acS (a:ao) (b c:Int):binop .lss (.int a b) (.int a c)=some (.ez (decide (b<c))):=by
 show iS (G6 a a) (Ak (O9 b c))=_;rw[uP,zx,jf,uG]
@[simp]def acT (a:ao) (b c:Int):binop .leq (.int a b) (.int a c)=some (.ez (decide (b<=c))):=by
 show iS (G6 a a) (Ak (!O9 c b))=_;rw[uP,zx,jf,uG];congr 2;rw[bJ];simp
@[simp]def acU (a:ao) (b c:Int):binop .gtr (.int a b) (.int a c)=some (.ez (decide (c<b))):=by
 show iS (G6 a a) (Ak (O9 c b))=_;rw[uP,zx,jf,uG]
@[simp]def acV (a:ao) (b c:Int):binop .geq (.int a b) (.int a c)=some (.ez (decide (c<=b))):=by
 show iS (G6 a a) (Ak (!O9 b c))=_;rw[uP,zx,jf,uG];congr 2;rw[bJ];simp
def kG{a:Int}(c: -9223372036854775808<=a)(d:a<9223372036854775808):Or .i64 a=a:=by
 cases a with
 |ofNat b=>
  show @Bool.rec (λ_=>Int) _ _ (Nat.ble b 9223372036854775807)=_;rw[cr (by grind)]
 |negSucc b=>
  show @Bool.rec (λ_=>Int) _ _ (Nat.ble b 9223372036854775807)=_;rw[cr B]
def Kz{a:Int}(b: -9223372036854775808<=a)(c:a<9223372036854775808):sP .i64 a=some (.int .i64 a):=by
 unfold sP;rw[kG b c,qI]
theorem jp{a b:Int}(c: -9223372036854775808<=a+b)(d:a+b<9223372036854775808):binop .add (.int .i64 a) (.int .i64 b)=some (.int .i64 (a+b)):=Kz c d
def mh{a b:Int}(c: -9223372036854775808<=a-b)(d:a-b<9223372036854775808):binop .sub (.int .i64 a) (.int .i64 b)=some (.int .i64 (a-b)):=Kz c d
def Ob{a b:Nat}(c:a<b)(d:b<9223372036854775808):binop .add (.int .i64 (a:Int)) (.int .i64 1)=some (.int .i64 ((a+1:Nat):Int)):=by
 rw[jp B B];rfl
@[simp]theorem ac5 (a:Bool):unop .not (.ez a)=some (.ez !a):=by cases a<;>rfl
def Uq{b:Type}(a:List b):mJ a=a.length:=kE a
@[simp]theorem act (b:H) (a:List T) (c:Bool):aip b (.V a c)=some (.val (.int .i64 (a.length:Nat)) b):=by
 show val b (J (jd (mJ a)) λd=>some (.int .i64 (.ofNat d)))=_;rw[Uq,jt];rfl
@[simp]def acK (a:List Nat):(T.str a).cells=[.str a]:=id rfl
@[simp]def acM (a:ao) (b:Int):(T.int a b).cells=[.int a b]:=id rfl
@[simp]def abx (a:Bool):(T.ez a).cells=[.ez a]:=id rfl
@[simp]def acO (a:List T):(T.eZ a).cells=a:=id rfl
@[simp]def Cp (a b:Nat):Nat.beq a b=decide (a=b):=by
 rw[bJ];simp
@[simp]def X5 (a b:Nat):Nat.ble a b=decide (a<=b):=by
 rw[bJ];simp
@[simp]def X3 (a b:Nat):Nat.blt a b=decide (a<b):=by
 rw[bJ,aK];simp
@[simp]def aff (a:List Nat):(T.str a).jc=true:=id rfl
@[simp]def afh (a:ao) (b:Int):(T.int a b).jc=true:=id rfl
@[simp]def acE (a:Bool):(T.ez a).jc=true:=id rfl
@[simp]def acz (a:List T) (b:Bool):(T.V a b).jc=true:=id rfl
@[simp]def afj (a:List T):(T.eZ a).jc=true:=id rfl
@[simp]theorem afu (off:Nat) (b:H) (a:List T):faV off b (.ks a)=J (kZ off a) λc=>some (nh.val (.ks c) b):=rfl
@[simp]theorem acq (c:H) (b:Ty) (a:List T):c.load b (.ks a)=lK b a:=rfl
@[simp]theorem agY {b:Type} (a:List b):kZ 0 a=some a:=rfl
@[simp]theorem agX {c:Type} (b:Nat) (d:c) (a:List c):kZ (b+1) (d::a)=kZ b a:=rfl
@[simp]theorem agl {b:Type} (a:List b):takeN 0 a=some []:=rfl
@[simp]theorem agk {d:Type} (b:Nat) (c:d) (a:List d):takeN (b+1) (c::a)=J (takeN b a) λe=>some (c::e):=rfl
@[simp]theorem acH (a:H) (c:List T) (b:Nat):exV a (.tuple c) b=val a (oo c b):=rfl
end
noncomputable section
open Classical in
@[simp]theorem Ib:nK []=true:=by unfold nK;rfl
@[simp]def FQ (a:T) (b:List T):nK (a::b)=(oQ a&&nK b):=by rw[nK]
@[simp]theorem La (a:ao) (b:Int):oQ (.int a b)=true:=by unfold oQ;rfl
@[simp]theorem acp (a:Bool):oQ (.ez a)=true:=by unfold oQ;rfl
@[simp]theorem K9 (a:List Nat):oQ (.str a)=true:=by unfold oQ;rfl
@[simp]theorem acn:oQ .iX=true:=by unfold oQ;rfl
@[simp]def aco (a:List T) (b:Bool):oQ (.V a b)=nK a:=by rw[oQ]
@[simp]def Ld (a:List T):oQ (.eZ a)=nK a:=by rw[oQ]
def Rg{d:Type}(c:d->T)(e:∀b,oQ (c b)=true):∀a:List d,nK (a.map c)=true:=by
 intro a;induction a with
 |nil=>simp
 |cons b a f=>simp[e b,f]
def SL(b:T)(a:List T):Prop:=(b= .iX/\a=[])\/∃c,b= .V a c
def sl(a:List T):T:=match a with| []=> .iX|x::b=> .V (x::b) false
def Yg(a:List T)(b:Bool):SL (.V a b) a:= .inr ⟨b,rfl⟩
def SL.j1{b:T}{a:List T}(d:SL b a)(c:H):c.j1 b=some a:=by
 rcases d with⟨rfl,rfl⟩|⟨e,rfl⟩<;>rfl
theorem SL.cells{a:T}{b:List T}(c:SL a b):a.cells=[a]:=by
 rcases c with⟨rfl,rfl⟩|⟨d,rfl⟩<;>rfl
theorem SL.jc{a:T}{b:List T}(c:SL a b):a.jc=true:=by
 rcases c with⟨rfl,rfl⟩|⟨d,rfl⟩<;>rfl
end
noncomputable section
def Hp(a:H):Prop:=a.ir.length=a.size
def Yn{a:H}(c:Hp a)(b:jK):Hp (a.cons b):=by grind [Hp,H.cons]
@[simp]theorem size_cons (a:H) (b:jK):(a.cons b).size=a.size+1:=rfl
def fJ(a:H)(b:Nat)(c:jK):H:=(a.put b c).getD a
def KB{b:H}(i:Hp b){a:Nat}(h:a<b.size)(e:jK):b.put a e=some (fJ b a e):=by
 have:∃d,b.put a e=some d:=by
  obtain⟨c,f,j⟩:=b;unfold Hp at i;simp only at i h;show∃d,(iS (Nat.blt a c) (J (mw j (Nat.sub (Nat.sub c 1) a) e) λg=> @Bool.rec (λ_=>aa H) (some ⟨c,f,g⟩) (some ⟨c,a,g⟩) (Nat.blt a f)))=some d;rw[show Nat.blt a c=true by rw[aK];exact h,jf,mz,au (by grind),fw];cases Nat.blt a f<;>exact⟨_,rfl⟩
 obtain⟨d,k⟩:=this;unfold fJ;rw[k];rfl
def MQ{b:H}(m:Hp b){a:Nat}(h:a<b.size)(c:jK):Hp (fJ b a c)/\(fJ b a c).size=b.size/\∀f,(fJ b a c).get f=if f=a then some c else b.get f:=by
 have e:=KB m h c;generalize fJ b a c=g at*
 obtain⟨d,j,k⟩:=b;unfold Hp at*
 simp only at m h;have e:(iS (Nat.blt a d) (J (mw k (Nat.sub (Nat.sub d 1) a) c) λl=> @Bool.rec (λ_=>aa H) (some ⟨d,j,l⟩) (some ⟨d,a,l⟩) (Nat.blt a j)))=some g:=e;rw[show Nat.blt a d=true by rw[aK];exact h,jf,mz,au (by grind),fw]at e;have o:g.size=d/\g.ir=k.set (d-1-a) c:=by
  cases hl:Nat.blt a j<;>rw[hl]at e<;>simp only[aw]at e<;>subst e<;>exact⟨rfl,rfl⟩
 obtain⟨i,n⟩:=o;refine⟨by rw[i,n];grind,i,λf=>?_⟩;rw[H.get_eq,H.get_eq,i,n]
 grind
def get_put{b:H}(f:Hp b){c:Nat}(e:c<b.size)(d:jK)(a:Nat):(fJ b c d).get a=if a=c then some d else b.get a:=(MQ f e d).2.2 a
@[simp]theorem agU (off:Nat) (c:H) (a b d e:Nat):faV off c (.fc a b d e)=some (.val (.fc a b d (e+off)) c):=by
 show(J (jd (Nat.add e off)) λf=>some (nh.val (.fc a b d f) c))=_;rw[jt];rfl
@[simp]theorem Ui (a:H) (b:Nat->T) (c:jK):kr (a.new b c)=some (.val (b a.size) (a.cons c)):=by rw[H.mI];rfl
theorem Ns{a:H}(b:Hp a)(f c:T):wM 0 0 f c a=some (c,⟨0,0,[]⟩):=by
 obtain⟨d,e,g⟩:=a;unfold Hp at b;simp only at b;unfold wM;simp only;rw[show Nat.sub d 0=d from rfl,nO,au B,fw,show Nat.ble 0 e=true by simp]
 grind
def Lh{a:H}(e:Hp a){b c:T}(d:jX a 0 b=some c):FV false 0 0 b a=some (c,⟨0,0,[]⟩):=by
 show @Option.rec T (λ_=>aa (T×H)) (py 0 b a) (λc=>wM 0 0 b c a) (jX a 0 b)=_;rw[d]
 grind [Ns]
inductive Yo:T->Prop where
 |ez (b:Bool):Yo (.ez b)
 |int (k:ao) (n:Int):Yo (.int k n)
 |str (s:List Nat):Yo (.str s)
 |V (es:List T) (f:Bool):Yo (.V es f)
 |iX:Yo .iX
theorem Yo.freeze{a:T}(d:Yo a)(c:H)(e b:Nat):freeze c e (b+1) a=some a:=by cases d<;>rfl
def vK{c:T->aa T}{a:List T}(d:∀b∈a,c b=some b):iH c a=some a:=by
 induction a with
 |nil=>rfl
 |cons b h e=>
  rw[kx,d b G,e λf g=>d f (by grind)];rfl
def aga(b:T):Prop:=Yo b\/∃a,b= .eZ a/\∀c∈a,Yo c
theorem aga.freeze{e:T}(d:aga e)(b:H)(c a:Nat):freeze b c (a+2) e=some e:=by
 rcases d with d|⟨f,rfl,g⟩
 ·exact d.freeze b c (a+1)
 ·show(J (iH (Go.TI.freeze b c (a+1)) f) λi=>some (T.eZ i))=_;rw[vK λj h=>(g j h).freeze b c a];rfl
section
def C1(b:List (Nat×Nat))(c d:Nat):Bool:=b.any λa=>a.1==c&&a.2==d
def m7(a:List (Nat×Nat))(b:Nat):Bool:=a.any λc=>c.1==b
def Io{a:List (Nat×Nat)}{b c:Nat}(h:C1 a b c=true):m7 a b=true:=by
 unfold C1 at h;unfold m7;rw[List.any_eq_true]at h|-
 grind
def XN(g:List (Nat×Nat))(c:ah Oper):Bool:=
 let f:=Oc c.toList []
 let d:=c.toList.zipIdx
 d.all λa=>d.all λb=> !Nat.blt b.2 a.2|| !((vL b.1.op&&jr a.1.op)||(jr b.1.op&&(vL a.1.op||jr a.1.op)))||(f.getD a.2 0).testBit b.2||C1 g b.2 a.2
def Gy{j:List (Nat×Nat)}{g:ah Oper}(k:XN j g=true){b c:Nat}{f d:Oper}(p:g[b]? =some f)(q:g[c]? =some d)(s:b<c)
 (r:(vL f.op=true/\jr d.op=true)\/(jr f.op=true/\(vL d.op=true\/jr d.op=true))):kL g b c=true\/C1 j b c=true:=by
 unfold XN at k;have m:=List.all_eq_true.1 k (d,c) (mem_zipIdx q);have a:=List.all_eq_true.1 m (f,b) (mem_zipIdx p);have o:Nat.blt b c=true:=by rw[aK];omega
 simp only[o,Bool.not_true,Bool.false_or,cu,cq]at a;rcases a with(a|a)|a
 ·exfalso;rcases r with⟨l,i⟩|⟨l,i|i⟩<;>simp[l,i]at a
 ·exact .inl a
 grind
def oL(c:List (Nat×Nat))(f b:Nat)(d:List (Nat×H×H)):Prop:=∀a∈d,C1 c a.1 f=true->gU a.2.1 a.2.2 b=true
def yU(b:List (Nat×Nat))(d:Nat)(h c:H)(f:List (Nat×Nat)):Prop:=∀a∈f,C1 b a.1 d=true->gU h c a.2=true
@[simp]def aaP (b:List (Nat×Nat)) (c a:Nat):oL b c a []=True:=by simp[oL]
@[simp]def Zm (b:List (Nat×Nat)) (c a g:Nat) (h f:H) (d:List (Nat×H×H)):oL b c a ((g,h,f)::d)=((C1 b g c=true->gU h f a=true)/\oL b c a d):=by simp[oL]
@[simp]def acI (a:List (Nat×Nat)) (c:Nat) (h b:H):yU a c h b []=True:=by simp[yU]
@[simp]def abg (a:List (Nat×Nat)) (c f d:Nat) (h b:H) (g:List (Nat×Nat)):yU a c h b ((f,d)::g)=((C1 a f c=true->gU h b d=true)/\yU a c h b g):=by simp[yU]
open Classical in
def Aj(cx:Ctx)(cf:jQ)(D:Nat)(g:ah Oper)(b:List (Nat×Nat)):List Oper->Nat->List (Nat×Nat)->List (Nat×H×H)->Env->H->aa (Env×H)
 | [],_,_,_,e,h=>some (e,h)
 |o::k,a,f,c,e,h=>J (mV cx cf D g e h o) λm=>two m λj d=>
  J (lQ g D e o.guard) λr=>
   if r=true then
    if jr o.op=true then
     if yU b a h d f/\(∀p l q i,o.op= .store p l q->J (iG cx D e l) fq=some i->oL b a i c)then
      Aj cx cf D g b k (a+1) f (if m7 b a=true then(a,h,d)::c else c) j d else none
    else match jb cx D e h o.op with
     |none=>Aj cx cf D g b k (a+1) f c j d
     |some i=>if oL b a i c then Aj cx cf D g b k (a+1) (if m7 b a=true then(a,i)::f else f) c j d else none
   else Aj cx cf D g b k (a+1) f c j d
section
variable {cx:Ctx}{cf:jQ}{n D:Nat}
def Ku{o:List (Nat×Nat)}{c:ah Oper}(N:XN o c=true):∀(l:List Oper) (b:Nat) (u:List (Nat×Nat)) (r:List (Nat×H×H)) (g:Seen) (e:Env) (h:H) (q:Env×H),(∀m,l[m]? =c[b+m]?)->
 (∀a∈g.oq,a.1<b/\(∃d,c[a.1]? =some d/\vL d.op=true)/\(m7 o a.1=true->a∈u))->
 (∀a∈g.mL,a.1<b/\(∃d,c[a.1]? =some d/\jr d.op=true)/\(m7 o a.1=true->a∈r))->
 Aj cx cf D c o l b u r e h=some q->lf cx cf D c l b g e h=some q:=by
 intro l;induction l with
 |nil=>intro b u r g e h q _ _ _ f;exact f
 |cons d l Q=>
  intro b u r g e h q hl E A f;have O:c[b]? =some d:=by have:=hl 0;grind
  have P:∀m,l[m]? =c[b+1+m]? :=λm=>by
   have:=hl (m+1);simp only[dF]at this;rw[this];grind
  show(J (mV cx cf D c e h d) λa=>two a λp i=>
   J (lQ c D e d.guard) λal=> @Bool.rec (λ_=>aa (Env×H)) (lf cx cf D c l (b+1) g p i)
    (@Bool.rec (λ_=>aa (Env×H))
      (@Option.rec Nat (λ_=>aa (Env×H)) (lf cx cf D c l (b+1) g p i)
        (λj=>iS (qj c b j g.mL) (lf cx cf D c l (b+1) ⟨(b,j)::g.oq,g.mL⟩ p i)) (jb cx D e h d.op))
      (iS (Au c b h i g.oq) (iS (ug cx D c b e g.mL d.op) (lf cx cf D c l (b+1) ⟨g.oq,(b,h,i)::g.mL⟩ p i))) (jr d.op)) al)=some q
  unfold Aj at f;obtain⟨⟨p,i⟩,Z,f⟩:=eg.1 f;simp only[mv]at f;obtain⟨w,ab,f⟩:=eg.1 f;rw[Z,fw,mv,ab,fw];have W:∀a∈g.oq,a.1<b+1/\(∃d,c[a.1]? =some d/\vL d.op=true)/\(m7 o a.1=true->a∈u):=λa k=>⟨by have:=(E a k).1;omega,(E a k).2⟩;have T:∀a∈g.mL,a.1<b+1/\(∃d,c[a.1]? =some d/\jr d.op=true)/\(m7 o a.1=true->a∈r):=λa k=>⟨by have:=(A a k).1;omega,(A a k).2⟩;have lk:∀j,(vL d.op=true\/jr d.op=true)->oL o b j r->qj c b j g.mL=true:=by
   intro j U s;unfold qj;rw[Cr,cg];intro a k;obtain⟨I,⟨ae,K,L⟩,M⟩:=A a k;show @Bool.rec (λ_=>Bool) (kL c a.1 b) true (gU a.2.1 a.2.2 j)=true;rcases Gy N K O I (.inr ⟨L,U⟩)with F|t
   ·rw[F];cases gU a.2.1 a.2.2 j<;>rfl
   ·rw[s a (M (Io t)) t]
  cases w with
  |false=>grind
  |true=>
   simp only[bw]at f;cases z:jr d.op with
   |true=>
    rw[z]at f;simp only[bw]at f;split at f
    ·rename_i s;have R:Au c b h i g.oq=true:=by
      unfold Au;rw[Cr,cg];intro a k;obtain⟨I,⟨ae,K,L⟩,M⟩:=E a k;show @Bool.rec (λ_=>Bool) (kL c a.1 b) true (gU h i a.2)=true;rcases Gy N K O I (.inl ⟨L,z⟩)with F|t
      ·rw[F];cases gU h i a.2<;>rfl
      ·rw[s.1 a (M (Io t)) t]
     have S:ug cx D c b e g.mL d.op=true:=by
      unfold ug;split
      ·rename_i m x v ap;cases an:J (iG cx D e x) fq with
       |none=>rfl
       |some j=>grind
      ·rfl
     simp only[R,S,jf];refine Q (b+1) _ _ _ p i q P W (λa k=>?_) f
     grind
    grind
   |false=>
    rw[z]at f;simp only[cC,br]at f;simp only;cases y:jb cx D e h d.op with
    |none=>rw[y]at f;grind
    |some j=>
     rw[y]at f;simp only at f;split at f
     ·rename_i s;have V:=Le y;simp only[lk j (.inl V) s,jf];refine Q (b+1) _ _ _ p i q P (λa k=>?_) T f
      grind
     grind
abbrev DL:=List (Nat×List (Nat×Nat))
def SA(cx:Ctx)(cf:jQ)(D:Nat)(dl:DL)(id:Nat)(a:ah Oper)(e:Env)(h:H):Out:=
 match dl.lookup id with
 |none=>J (lZ cx cf D a a.toList ⟨e.vars,.nil⟩ h) λd=>two d λb c=>some (.normal,⟨b.vars,.nil⟩,c)
 |some f=>J (Aj cx cf D a f a.toList 0 [] [] ⟨e.vars,.nil⟩ h) λd=>two d λb c=>some (.normal,⟨b.vars,.nil⟩,c)
def kq(cx:Ctx)(cf:jQ)(b D:Nat)(dl:DL):Code->Env->H->Out
 | .skip=>λe h=>some (.normal,e,h)
 | .region id f _=>SA cx cf D dl id f
 | .seq c a=>E1 (kq cx cf b D dl c) (kq cx cf b D dl a)
 | .cond d c a=>LQ cx D d (kq cx cf b D dl c) (kq cx cf b D dl a)
 | .block id a=>A6 id (kq cx cf b D dl a)
 | .loop a=>qt (kq cx cf b D dl a) b
 | .exit id=>λe h=>some (.exit id,e,h)
 | .ret=>λe h=>some (.ret,e,h)
 |_=>λ_ _=>none
def oP(dl:DL):Code->Bool
 | .region id d c=>(match dl.lookup id with|none=> !c||OD d|some f=>c&&XN f d)
 | .seq a b=>oP dl a&&oP dl b
 | .cond _ a b=>oP dl a&&oP dl b
 | .block _ a=>oP dl a
 | .loop a=>oP dl a
 |_=>true
def tv{dl:DL}:∀(o:Code),oP dl o=true->∀e h b,kq cx cf n D dl o e h=some b->ll cx cf n D o e h=some b:=by
 intro o;induction o with
 |region id j x=>
  intro c e h b a;obtain⟨s,I⟩:=e;replace a:SA cx cf D dl id j ⟨s,I⟩ h=some b:=a;unfold SA at a;simp only[oP]at c;cases hl:dl.lookup id with
  |none=>
   rw[hl]at a c;simp only at a c;cases x with
   |false=>exact a
   |true=>
    simp only[Bool.not_true,Bool.false_or]at c;show(J (lf cx cf D j j.toList 0 ⟨[],[]⟩ ⟨s,.nil⟩ h) λb=>two b λf g=>some (Ex.normal,(⟨f.vars,.nil⟩:Env),g))=some b;rw[IJ c j.toList 0 ⟨[],[]⟩ ⟨s,.nil⟩ h (λu=>by simp) (λl q=>by grind) (λl q=>by grind)];exact a
  |some L=>
   rw[hl]at a c;simp only[az]at a c;obtain⟨rfl,c⟩:=c;obtain⟨l,q,a⟩:=eg.1 a;show(J (lf cx cf D j j.toList 0 ⟨[],[]⟩ ⟨s,.nil⟩ h) λb=>two b λf g=>some (Ex.normal,(⟨f.vars,.nil⟩:Env),g))=some b;rw[Ku c j.toList 0 [] [] ⟨[],[]⟩ ⟨s,.nil⟩ h l (λu=>by simp) (λl q=>by grind) (λl q=>by grind) q,fw];exact a
 |seq d m v E=>
  intro c e h b a;simp only[oP,az]at c;have a:E1 (kq cx cf n D dl d) (kq cx cf n D dl m) e h=some b:=a;show E1 (ll cx cf n D d) (ll cx cf n D m) e h=some b;unfold E1 at*
  obtain⟨⟨k,y,z⟩,p,a⟩:=eg.1 a;rw[v c.1 e h _ p,fw];simp only[nC]at*
  cases k with
  |normal=>grind
  |exit r=>exact a
  |ret=>exact a
 |cond w d m v E=>
  intro c e h b a;simp only[oP,az]at c;have a:LQ cx D w (kq cx cf n D dl d) (kq cx cf n D dl m) e h=some b:=a;show LQ cx D w (ll cx cf n D d) (ll cx cf n D m) e h=some b;unfold LQ at*
  obtain⟨K,A,a⟩:=eg.1 a;rw[A,fw];cases K<;>first|exact a|skip
  rename_i u;cases u with
  |true=>grind
  |false=>grind
 |block id d t=>
  intro c e h b a;simp only[oP]at c;have a:A6 id (kq cx cf n D dl d) e h=some b:=a;show A6 id (ll cx cf n D d) e h=some b;unfold A6 at*
  obtain⟨l,p,a⟩:=eg.1 a;rw[t c e h _ p,fw];exact a
 |loop d t=>
  intro c e h b a;simp only[oP]at c;have F:∀i e h b,qt (kq cx cf n D dl d) i e h=some b->qt (ll cx cf n D d) i e h=some b:=by
   intro i;induction i with
   |zero=>simp[qt]
   |succ i M=>
    intro e h b a;have a:(J (kq cx cf n D dl d e h) λb=>three b λk f g=> @Ex.rec (λ_=>Out) (qt (kq cx cf n D dl d) i f g) (λr=>some (.exit r,f,g)) (some (.ret,f,g)) k)=some b:=a;show(J (ll cx cf n D d e h) λb=>three b λk f g=> @Ex.rec (λ_=>Out) (qt (ll cx cf n D d) i f g) (λr=>some (.exit r,f,g)) (some (.ret,f,g)) k)=some b;obtain⟨⟨k,y,z⟩,p,a⟩:=eg.1 a;rw[t c e h _ p,fw];simp only[nC]at*
    cases k with
    |normal=>grind
    |exit r=>exact a
    |ret=>exact a
  exact F n e h b a
 |_=>intro _ e h b a;first|exact a|(simp[kq]at a)
def WR(cx:Ctx)(cf:jQ)(D:Nat)(f:ah Oper)(d:List Oper)(i g:iM)(h:H)(c:iM->H->Prop):Prop:=
 ∃a b,lZ cx cf D f d ⟨i,g⟩ h=some (a,b)/\c a.vars b
def WX(c:aa (T×H))(b:T->H->Prop):Prop:=∃a h,c=some (a,h)/\b a h
@[simp]def Ct (b:T) (h:H) (d:T->H->Prop):WX (some (b,h)) d=d b h:=by
 apply propext;constructor
 ·rintro⟨g,f,c,a⟩;simp only[aw,aF]at c;obtain⟨rfl,rfl⟩:=c;exact a
 ·exact λa=>⟨b,h,rfl,a⟩
def WD(D:Nat)(g:aa Tmp)(f:T)(d c:iM)(a:iM->iM->Prop):Prop:=match g with
 |none=>a d c
 |some b=>if lI D b=true then a (put d b f) c else a d (.cons b f c)
def FX(a b:Nat):(lI a b=true)=((a>>>b)&&&1=1):=by
 apply propext;show Nat.beq ((a>>>b)&&&1) 1=true↔_;exact⟨aH,λh=>by rw[h];rfl⟩
def J4(a:Tmp)(d:T)(f c:iM)(b:iM->iM->Prop):WD D (some a) d f c b=if(D>>>a)&&&1=1 then b (put f a d) c else b f (.cons a d c):=by
 simp[WD,FX]
def VF(i:ah Oper)(a b:iM)(h:H)(c:iM->H->Prop):WR cx cf D i [] a b h c=c a h:=by
 apply propext;constructor
 ·rintro⟨e,g,d,f⟩;have d:some ((⟨a,b⟩:Env),h)=some (e,g):=d
  grind
 ·exact λf=>⟨⟨a,b⟩,h,rfl,f⟩
def JZ(l:ah Oper)(k:Oper)(j:List Oper)(b a:iM)(h:H)(q:iM->H->Prop):
 WR cx cf D l (k::j) b a h q=WX (Bj cx cf D l ⟨b,a⟩ h k) λc d=>WD D k.dst c b a λb a=>WR cx cf D l j b a d q:=by
 have u:∀c d,(∃f,Env.dst D ⟨b,a⟩ k.dst c=some f/\WR cx cf D l j f.vars f.tmps d q)↔WD D k.dst c b a λb a=>WR cx cf D l j b a d q:=by
  intro c d;cases x:k.dst with
  |none=>
   constructor
   ·rintro⟨f,g,p⟩;have g:some (⟨b,a⟩:Env)=some f:=g;simp only[aw]at g;subst g;exact p
   ·exact λp=>⟨_,rfl,p⟩
  |some m=>
   have hE:Env.dst D ⟨b,a⟩ (some m) c=some (if lI D m=true then⟨put b m c,a⟩else⟨b,.cons m c a⟩):=by
    show @Bool.rec (λ_=>aa Env) (some ⟨b,.cons m c a⟩) (J (nG b m c) λj=>some ⟨j,a⟩) (lI D m)=_;rw[rH];cases lI D m<;>rfl
   rw[hE];unfold WD;simp only[aw,exists_eq_left'];split<;>rfl
 apply propext;have v:lZ cx cf D l (k::j) ⟨b,a⟩ h=J (mV cx cf D l ⟨b,a⟩ h k) λw=>two w λo d=>lZ cx cf D l j o d:=rfl;unfold WR;rw[v,uh];constructor
 ·rintro⟨o,d,i,s⟩;have⟨⟨c,r⟩,t,i⟩:=eg.1 i;simp only[mv]at i;have⟨f,g,i⟩:=eg.1 i;exact⟨c,r,t,(u c r).1 ⟨f,g,o,d,i,s⟩⟩
 ·rintro⟨c,r,t,p⟩;have⟨f,g,o,d,i,s⟩:=(u c r).2 p;refine⟨o,d,?_,s⟩;rw[t,fw,mv,g,fw];exact i
def afZ(f:ah Oper)(g:aa Tmp)(i:Op)(m:af)(l:String)(j:ah Edge)(d:List Oper)(b a:iM)(h:H)(c:iM->H->Prop):
 WR cx cf D f (⟨g,i,m,l,j,none⟩::d) b a h c=WX (fin cf h (ke i cx D ⟨b,a⟩ h)) λo k=>WD D g o b a λb a=>WR cx cf D f d b a k c:=JZ f _ d b a h c
def WG(c:aa Bool)(a b:Prop):Prop:=match c with|some true=>a|some false=>b|none=>False
def P5(a b:Prop):WG (some true) a b=a:=rfl
def Md(b a:Prop):WG (some false) b a=a:=rfl
def VG(c:ah Oper)(i:aa Tmp)(k:Op)(q:af)(p:String)(o:ah Edge)(f:Nat)(d:Bool)(j:List Oper)(b a:iM)(h:H)(g:iM->H->Prop):
 WR cx cf D c (⟨i,k,q,p,o,some (f,d)⟩::j) b a h g=WG (lQ c D ⟨b,a⟩ (some (f,d)))
  (WX (fin cf h (ke k cx D ⟨b,a⟩ h)) λm l=>WD D i m b a λb a=>WR cx cf D c j b a l g)
  (WD D i .undef b a λb a=>WR cx cf D c j b a h g):=by
 rw[JZ];show WX (J (lQ c D ⟨b,a⟩ (some (f,d))) λs=> @Bool.rec (λ_=>aa (T×H)) (some (.undef,h)) (fin cf h (ke k cx D ⟨b,a⟩ h)) s) _=_;cases lQ c D ⟨b,a⟩ (some (f,d))with
 |none=>apply propext;constructor<;>(first|(rintro⟨m,l,t,_⟩;simp_all)|exact False.elim)
 |some r=>cases r<;>simp[P5,Md]
def Ov(a:aa T)(b:Bool):aa Bool:=J a λa=>match a with| .ez c=>some (c==b)|_=>some false
@[simp]theorem EL (b a:Bool):Ov (some (.ez b)) a=some (b==a):=rfl
@[simp]theorem Yt (a:Bool):Ov (some .undef) a=some false:=rfl
@[simp]def EM (d:List Oper) (e:Env) (c:Nat) (f:Bool):lQ d.toArray D e (some (c,f))=Ov (J (J (d[c]?) λb=>b.dst) λa=>e.get D a) f:=by
 show(J (J (J (oo d.toArray.toList c) λb=>b.dst) λa=>e.get D a) λg=>_)=_;rw[mg];unfold Ov;simp only;cases (J (J (d[c]?) λb=>b.dst) λa=>e.get D a)with
 |none=>rfl
 |some g=>cases g<;>first|rfl|(rename_i i;cases i<;>cases f<;>rfl)
@[simp]theorem Ev (c b:iM) (a:Nat):Env.get D ⟨c,b⟩ a=if(D>>>a)&&&1=1 then M c a else M b a:=by
 show @Bool.rec (λ_=>aa T) (M b a) (M c a) (lI D a)=_;simp only[<-FX];cases lI D a<;>rfl
def Oi(cx:Ctx)(cf:jQ)(D:Nat)(k:ah Oper)(d:List (Nat×Nat))(i:List Oper)(g:Nat)(j:List (Nat×Nat))(f:List (Nat×H×H))(m l:iM)(h:H)(c:iM->H->Prop):Prop:=
 ∃a b,Aj cx cf D k d i g j f ⟨m,l⟩ h=some (a,b)/\c a.vars b
def PZ(m:ah Oper)(g:List (Nat×Nat))(k:Nat)(l:List (Nat×Nat))(i:List (Nat×H×H))(a b:iM)(h:H)(c:iM->H->Prop):Oi cx cf D m g [] k l i a b h c=c a h:=by
 apply propext;constructor
 ·rintro⟨e,j,d,f⟩;have d:some ((⟨a,b⟩:Env),h)=some (e,j):=d
  grind
 ·exact λf=>⟨⟨a,b⟩,h,rfl,f⟩
def DK(cx:Ctx)(D:Nat)(d:List (Nat×Nat))(a:Nat)(f:List (Nat×Nat))(b:List (Nat×H×H))(i:Op)(e:Env)(h j:H)(g:List (Nat×Nat)->List (Nat×H×H)->Prop):Prop:=
 if jr i=true then(yU d a h j f/\(∀l k m c,i= .store l k m->J (iG cx D e k) fq=some c->oL d a c b))/\g f (if m7 d a=true then(a,h,j)::b else b)
 else match jb cx D e h i with
  |none=>g f b
  |some c=>oL d a c b/\g (if m7 d a=true then(a,c)::f else f) b
def Mc(u:ah Oper)(y:List (Nat×Nat))(i:Oper)(x:List Oper)(z:Nat)(q:List (Nat×Nat))(o:List (Nat×H×H))(b a:iM)(h:H)(A:iM->H->Prop):
 Oi cx cf D u y (i::x) z q o b a h A=WG (lQ u D ⟨b,a⟩ i.guard)
  (WX (fin cf h (ke i.op cx D ⟨b,a⟩ h)) λj c=>DK cx D y z q o i.op ⟨b,a⟩ h c λq o=>WD D i.dst j b a λb a=>Oi cx cf D u y x (z+1) q o b a c A)
  (WD D i.dst .undef b a λb a=>Oi cx cf D u y x (z+1) q o b a h A):=by
 have t:∀j c (q:List (Nat×Nat)) (o:List (Nat×H×H)),(∃g,Env.dst D ⟨b,a⟩ i.dst j=some g/\Oi cx cf D u y x (z+1) q o g.vars g.tmps c A)↔WD D i.dst j b a λb a=>Oi cx cf D u y x (z+1) q o b a c A:=by
  intro j c q o;cases O:i.dst with
  |none=>
   constructor
   ·rintro⟨g,f,r⟩;have f:some (⟨b,a⟩:Env)=some g:=f;simp only[aw]at f;subst f;exact r
   ·exact λr=>⟨_,rfl,r⟩
  |some v=>
   have hE:Env.dst D ⟨b,a⟩ (some v) j=some (if lI D v=true then⟨put b v j,a⟩else⟨b,.cons v j a⟩):=by
    show @Bool.rec (λ_=>aa Env) (some ⟨b,.cons v j a⟩) (J (nG b v j) λx=>some ⟨x,a⟩) (lI D v)=_;rw[rH];cases lI D v<;>rfl
   rw[hE];unfold WD;simp only[aw,exists_eq_left'];split<;>rfl
 apply propext;constructor
 ·rintro⟨l,c,p,m⟩;unfold Aj at p;rw[uh]at p;obtain⟨⟨j,I⟩,s,K⟩:=eg.1 p;simp only[mv]at K;obtain⟨g,f,L⟩:=eg.1 K;obtain⟨F,r,k⟩:=eg.1 L;clear p K L;unfold Bj at s;rw[r,fw]at s;rw[r];cases F with
  |false=>
   replace s:some (T.undef,h)=some (j,I):=s;simp only[aw,aF]at s;obtain⟨rfl,rfl⟩:=s;simp only[cC,br]at k;exact(t _ _ q o).1 ⟨g,f,l,c,k,m⟩
  |true=>
   simp only[bw]at k;refine⟨j,I,s,?_⟩;unfold DK;split
   ·rename_i hE;rw[au hE]at k;split at k
    ·rename_i w;exact⟨w,(t _ _ _ _).1 ⟨g,f,l,c,k,m⟩⟩
    grind
   ·rename_i hE;rw[Z hE]at k;cases E:jb cx D ⟨b,a⟩ h i.op with
    |none=>rw[E]at k;exact(t _ _ _ _).1 ⟨g,f,l,c,k,m⟩
    |some N=>
     rw[E]at k;simp only at k;split at k
     ·rename_i w;exact⟨w,(t _ _ _ _).1 ⟨g,f,l,c,k,m⟩⟩
     grind
 ·intro d;unfold Oi Aj;rw[uh];cases r:lQ u D ⟨b,a⟩ i.guard with
  |none=>rw[r]at d;exact d.elim
  |some F=>
   rw[r]at d;have M:Bj cx cf D u ⟨b,a⟩ h i= @Bool.rec (λ_=>aa (T×H)) (some (.undef,h)) (fin cf h (ke i.op cx D ⟨b,a⟩ h)) F:=by
    unfold Bj;rw[r,fw]
   cases F with
   |false=>
    obtain⟨g,f,l,c,p,m⟩:=(t _ _ q o).2 d;refine⟨l,c,?_,m⟩;rw[M];simp_all
   |true=>
    obtain⟨j,I,s,d⟩:=d;rw[M];simp only[s,fw,mv,bw];unfold DK at d;split at d
    ·rename_i hE;obtain⟨w,d⟩:=d;obtain⟨g,f,l,c,p,m⟩:=(t _ _ _ _).2 d;refine⟨l,c,?_,m⟩;rw[f,fw,au hE,au w];exact p
    ·rename_i hE;cases E:jb cx D ⟨b,a⟩ h i.op with
     |none=>
      rw[E]at d;obtain⟨g,f,l,c,p,m⟩:=(t _ _ _ _).2 d;refine⟨l,c,?_,m⟩;rw[f,fw,Z hE];exact p
     |some N=>
      rw[E]at d;obtain⟨w,d⟩:=d;obtain⟨g,f,l,c,p,m⟩:=(t _ _ _ _).2 d;refine⟨l,c,?_,m⟩;rw[f,fw,Z hE];simp only;rw[au w];exact p
def abV(l:ah Oper)(f:List (Nat×Nat))(m:aa Tmp)(k:Op)(r:af)(q:String)(p:ah Edge)(j:List Oper)(g:Nat)(d:List (Nat×Nat))(c:List (Nat×H×H))(b a:iM)(h:H)(i:iM->H->Prop):
 Oi cx cf D l f (⟨m,k,r,q,p,none⟩::j) g d c b a h i=
  WX (fin cf h (ke k cx D ⟨b,a⟩ h)) λs o=>DK cx D f g d c k ⟨b,a⟩ h o λd c=>WD D m s b a λb a=>Oi cx cf D l f j (g+1) d c b a o i:=Mc l f _ j g d c b a h i
def RK(cx:Ctx)(cf:jQ)(D:Nat)(d:ah Oper)(c:List Oper)(a f:iM)(h:H)(b:jE):Prop:=WR cx cf D d c a f h λa h=>b.n ⟨a,.nil⟩ h
def XK(k:aa (T×H))(cx:Ctx)(cf:jQ)(D:Nat)(i:ah Oper)(d:aa Tmp)(g:List Oper)(b a:iM)(c:jE):Prop:=WX k λj f=>WD D d j b a λb a=>RK cx cf D i g b a f c
def GK(j:aa Bool)(cx:Ctx)(cf:jQ)(D:Nat)(g:ah Oper)(d:aa Tmp)(i:Op)(f:List Oper)(b a:iM)(h:H)(c:jE):Prop:=
 WG j (XK (fin cf h (ke i cx D ⟨b,a⟩ h)) cx cf D g d f b a c) (WD D d .undef b a λb a=>RK cx cf D g f b a h c)
@[simp]def ai1 (c:ah Oper) (a d:iM) (h:H) (b:jE):RK cx cf D c [] a d h b=b.n ⟨a,.nil⟩ h:=VF c a d h _
@[simp]def ajy (g:ah Oper) (c:aa Tmp) (f:Op) (l:af) (k:String) (j:ah Edge) (d:List Oper) (b a:iM) (h:H) (i:jE):
 RK cx cf D g (⟨c,f,l,k,j,none⟩::d) b a h i=XK (fin cf h (ke f cx D ⟨b,a⟩ h)) cx cf D g c d b a i:=afZ g c f l k j d b a h _
@[simp]def gG (a:ah Oper) (f:aa Tmp) (j:Op) (o:af) (m:String) (l:ah Edge) (g:Nat) (d:Bool) (i:List Oper) (c b:iM) (h:H) (k:jE):
 RK cx cf D a (⟨f,j,o,m,l,some (g,d)⟩::i) c b h k=GK (lQ a D ⟨c,b⟩ (some (g,d))) cx cf D a f j i c b h k:=VG a f j o m l g d i c b h _
@[simp]theorem ahj (g:T) (h:H) (c:ah Oper) (b:List Oper) (f d:iM) (a:jE):XK (some (g,h)) cx cf D c none b f d a=RK cx cf D c b f d h a:=by
 unfold XK;rw[Ct];rfl
@[simp]def ahi (g:T) (h:H) (d:ah Oper) (a:Tmp) (c:List Oper) (i f:iM) (b:jE):XK (some (g,h)) cx cf D d (some a) c i f b=
 if(D>>>a)&&&1=1 then RK cx cf D d c (put i a g) f h b else RK cx cf D d c i (.cons a g f) h b:=by
 unfold XK;rw[Ct,J4]
@[simp]def ahu (i:ah Oper) (d:aa Tmp) (g:Op) (f:List Oper) (b a:iM) (h:H) (c:jE):GK (some true) cx cf D i d g f b a h c=XK (fin cf h (ke g cx D ⟨b,a⟩ h)) cx cf D i d f b a c:=id rfl
@[simp]def af7 (g:ah Oper) (c:Tmp) (i:Op) (f:List Oper) (b a:iM) (h:H) (d:jE):GK (some false) cx cf D g (some c) i f b a h d=if(D>>>c)&&&1=1 then RK cx cf D g f (put b c .undef) a h d else RK cx cf D g f b (.cons c .undef a) h d:=by
 show WD D (some c) .undef b a (λb a=>RK cx cf D g f b a h d)=_;rw[J4]
def Sl(cx:Ctx)(D:Nat)(b:List (Nat×Nat))(d:Nat)(c:List (Nat×H×H))(f:Op)(e:Env):Prop:=match f with
 | .store _ g _=>(match J (iG cx D e g) fq with|some a=>oL b d a c|none=>True)
 |_=>True
def Vl(b:List (Nat×Nat))(d:Nat)(c:List (Nat×H×H))(f:aa Nat):Prop:=match f with|some a=>oL b d a c|none=>True
@[simp]def abQ (a:List (Nat×Nat)) (c:Nat) (b:List (Nat×H×H)):Vl a c b none=True:=id rfl
@[simp]def abP (b:List (Nat×Nat)) (d:Nat) (c:List (Nat×H×H)) (a:Nat):Vl b d c (some a)=oL b d a c:=id rfl
@[simp]def EU (a:List (Nat×Nat)) (c:Nat) (b:List (Nat×H×H)) (f:af) (d g:ai) (e:Env):Sl cx D a c b (.store f d g) e=Vl a c b (J (iG cx D e d) fq):=id rfl
@[simp]def ab6 (b:List (Nat×Nat)) (d:Nat) (c:List (Nat×H×H)) (a:Call) (e:Env):Sl cx D b d c (.call a) e=True:=id rfl
def Yq(cx:Ctx)(cf:jQ)(D:Nat)(j:ah Oper)(c:List (Nat×Nat))(g:List Oper)(f:Nat)(i:List (Nat×Nat))(d:List (Nat×H×H))(a k:iM)(h:H)(b:jE):Prop:=Oi cx cf D j c g f i d a k h λa h=>b.n ⟨a,.nil⟩ h
def VN(q:aa (T×H))(cx:Ctx)(cf:jQ)(D:Nat)(o:ah Oper)(f:List (Nat×Nat))(k:aa Tmp)(m:Op)(l:List Oper)(i:Nat)(d:List (Nat×Nat))(c:List (Nat×H×H))(b a:iM)(h:H)(j:jE):Prop:=
 WX q λp g=>DK cx D f i d c m ⟨b,a⟩ h g λd c=>WD D k p b a λb a=>Yq cx cf D o f l (i+1) d c b a g j
def VZ(m:T)(cx:Ctx)(cf:jQ)(D:Nat)(l:ah Oper)(d:List (Nat×Nat))(f:aa Tmp)(j:List Oper)(i:Nat)(k:List (Nat×Nat))(g:List (Nat×H×H))(b a:iM)(h:H)(c:jE):Prop:=WD D f m b a λb a=>Yq cx cf D l d j i k g b a h c
def DLK(p:aa Nat)(m:T)(cx:Ctx)(cf:jQ)(D:Nat)(k:ah Oper)(b:List (Nat×Nat))(i:aa Tmp)(j:List Oper)(a:Nat)(d:List (Nat×Nat))(c:List (Nat×H×H))(o l:iM)(h:H)(f:jE):Prop:=match p with
 |none=>VZ m cx cf D k b i j (a+1) d c o l h f
 |some g=>oL b a g c/\VZ m cx cf D k b i j (a+1) (if m7 b a=true then(a,g)::d else d) c o l h f
@[simp]def agf (l:T) (j:ah Oper) (b:List (Nat×Nat)) (c:aa Tmp) (g:List Oper) (f:Nat) (i:List (Nat×Nat)) (d:List (Nat×H×H)) (m k:iM) (h:H) (a:jE):DLK none l cx cf D j b c g f i d m k h a=VZ l cx cf D j b c g (f+1) i d m k h a:=id rfl
@[simp]def VO (c:Nat) (m:T) (k:ah Oper) (b:List (Nat×Nat)) (i:aa Tmp) (j:List Oper) (a:Nat) (f:List (Nat×Nat)) (d:List (Nat×H×H)) (o l:iM) (h:H) (g:jE):DLK (some c) m cx cf D k b i j a f d o l h g=(oL b a c d/\VZ m cx cf D k b i j (a+1) (if m7 b a=true then(a,c)::f else f) d o l h g):=id rfl
@[simp]def age (l:T) (i:ah Oper) (b:List (Nat×Nat)) (f:List Oper) (d:Nat) (g:List (Nat×Nat)) (c:List (Nat×H×H)) (k j:iM) (h:H) (a:jE):VZ l cx cf D i b none f d g c k j h a=Yq cx cf D i b f d g c k j h a:=id rfl
@[simp]def agd (l:T) (j:ah Oper) (c:List (Nat×Nat)) (a:Tmp) (g:List Oper) (f:Nat) (i:List (Nat×Nat)) (d:List (Nat×H×H)) (m k:iM) (h:H) (b:jE):VZ l cx cf D j c (some a) g f i d m k h b=
 if(D>>>a)&&&1=1 then Yq cx cf D j c g f i d (put m a l) k h b else Yq cx cf D j c g f i d m (.cons a l k) h b:=by unfold VZ;rw[J4]
@[simp]def ahB (i:ah Oper) (c:List (Nat×Nat)) (f:Nat) (g:List (Nat×Nat)) (d:List (Nat×H×H)) (a j:iM) (h:H) (b:jE):Yq cx cf D i c [] f g d a j h b=b.n ⟨a,.nil⟩ h:=PZ i c f g d a j h _
@[simp]def ai5 (l:ah Oper) (d:List (Nat×Nat)) (f:aa Tmp) (a:Op) (q:af) (p:String) (o:ah Edge) (j:List Oper) (i:Nat) (k:List (Nat×Nat)) (g:List (Nat×H×H)) (c b:iM) (h:H) (m:jE):
 Yq cx cf D l d (⟨f,a,q,p,o,none⟩::j) i k g c b h m=VN (fin cf h (ke a cx D ⟨c,b⟩ h)) cx cf D l d f a j i k g c b h m:=abV l d f a q p o j i k g c b h _
def DEK(q:Bool)(p:T)(d:H)(cx:Ctx)(cf:jQ)(D:Nat)(o:ah Oper)(b:List (Nat×Nat))(k:aa Tmp)(m:Op)(l:List Oper)(a:Nat)(i:List (Nat×Nat))(c:List (Nat×H×H))(g f:iM)(h:H)(j:jE):Prop:=match q with
 |true=>(yU b a h d i/\Sl cx D b a c m ⟨g,f⟩)/\VZ p cx cf D o b k l (a+1) i (if m7 b a=true then(a,h,d)::c else c) g f d j
 |false=>DLK (jb cx D ⟨g,f⟩ h m) p cx cf D o b k l a i c g f d j
@[simp]def VP (p:T) (d:H) (o:ah Oper) (b:List (Nat×Nat)) (k:aa Tmp) (m:Op) (l:List Oper) (a:Nat) (f:List (Nat×Nat)) (c:List (Nat×H×H)) (i g:iM) (h:H) (j:jE):DEK true p d cx cf D o b k m l a f c i g h j=((yU b a h d f/\Sl cx D b a c m ⟨i,g⟩)/\VZ p cx cf D o b k l (a+1) f (if m7 b a=true then(a,h,d)::c else c) i g d j):=id rfl
@[simp]def RQ (p:T) (i:H) (o:ah Oper) (d:List (Nat×Nat)) (f:aa Tmp) (m:Op) (k:List Oper) (j:Nat) (l:List (Nat×Nat)) (g:List (Nat×H×H)) (b a:iM) (h:H) (c:jE):DEK false p i cx cf D o d f m k j l g b a h c=DLK (jb cx D ⟨b,a⟩ h m) p cx cf D o d f k j l g b a i c:=id rfl
@[simp]theorem agc (c:T) (q:H) (u:ah Oper) (i:List (Nat×Nat)) (p:aa Tmp) (a:Op) (s:List Oper) (k:Nat) (t:List (Nat×Nat)) (j:List (Nat×H×H)) (d b:iM) (h:H) (o:jE):
 VN (some (c,q)) cx cf D u i p a s k t j d b h o=DEK (jr a) c q cx cf D u i p a s k t j d b h o:=by
 unfold VN;rw[Ct];unfold DK;cases hE:jr a with
 |true=>
  rw[au rfl,VP];have:(∀m f c g,a= .store m f c->J (iG cx D ⟨d,b⟩ f) fq=some g->oL i k g j)↔Sl cx D i k j a ⟨d,b⟩:=by
   constructor
   ·intro l;cases a<;>first|exact trivial|skip
    rename_i m f c;rw[EU];cases r:J (iG cx D ⟨d,b⟩ f) fq with
    |none=>simp
    |some g=>simp_all
   ·intro l m f c g v r;subst v;rw[EU,r]at l;exact l
  rw[this];rfl
 |false=>
  rw[Z G,RQ];cases jb cx D ⟨d,b⟩ h a<;>rfl
section
variable (e:Env)(h:H)
@[simp]def Zn (a:af) (c b:ai):jr (.store a c b)=true:=id rfl
@[simp]def Zo (b:ai) (a:ah ai) (c:ah af):jr (.call ⟨.value b,a,c⟩)=true:=id rfl
@[simp]def Zp (a:Builtin) (b:ah ai) (c:ah af):jr (.call ⟨.builtin a,b,c⟩)=(match a with| .len| .min| .max=>false|_=>true):=id rfl
@[simp]def aaW (a:ai):jr (.move a)=false:=id rfl
@[simp]def Xi (a:ai):jr (.assign a)=false:=id rfl
@[simp]def aaX (a:af) (b:ai):jr (.load a b)=false:=id rfl
@[simp]def ae3 (a:ai):jr (.nilCheck a)=false:=id rfl
@[simp]def ae7 (b:af) (c:ai) (a:Nat):jr (.fieldAddr b c a)=false:=id rfl
@[simp]def ae6 (a:af) (b c:ai):jr (.indexAddr a b c)=false:=id rfl
@[simp]def acv (a:BinOp) (b c:af) (d f:ai):jr (.binOp a b d f c)=false:=id rfl
@[simp]def Zr (a:af):jr (.alloc a)=false:=id rfl
@[simp]def Zq (b:af) (a:ah (Nat×ai)):jr (.build b a)=false:=id rfl
@[simp]def ae9 (b:af) (n:Nat) (a:ah (Nat×ai)):jr (.buildSlice b n a)=false:=id rfl
@[simp]def ae4 (a:af) (b c:ai):jr (.makeSlice a b c)=false:=id rfl
@[simp]def ae2 (d:af) (f:ai) (a b c:aa ai):jr (.slice d f a b c)=false:=id rfl
@[simp]def ae8 (b:ai) (a:Nat):jr (.extract b a)=false:=id rfl
@[simp]def ae5 (c:Fn) (a b:ah ai):jr (.makeFunc c a b)=false:=id rfl
@[simp]def agC (b:af) (a:ai):jb cx D e h (.load b a)=J (iG cx D e a) fq:=id rfl
@[simp]def ajs (b:af) (a c:ai):jb cx D e h (.indexAddr b a c)=J (iG cx D e a) fq:=id rfl
@[simp]def ajo (f:af) (a:ai) (b c d:aa ai):jb cx D e h (.slice f a b c d)=J (iG cx D e a) fq:=id rfl
@[simp]def aeY (a:af):jb cx D e h (.alloc a)=some h.size:=id rfl
@[simp]def ajv (b:af) (n:Nat) (a:ah (Nat×ai)):jb cx D e h (.buildSlice b n a)=some h.size:=id rfl
@[simp]def ajq (a:af) (b c:ai):jb cx D e h (.makeSlice a b c)=some h.size:=id rfl
@[simp]def agB (a:ai):jb cx D e h (.move a)=none:=id rfl
@[simp]def acu (a:ai):jb cx D e h (.assign a)=none:=id rfl
@[simp]def ajp (a:ai):jb cx D e h (.nilCheck a)=none:=id rfl
@[simp]def ajt (b:af) (c:ai) (a:Nat):jb cx D e h (.fieldAddr b c a)=none:=id rfl
@[simp]def aiq (a:BinOp) (b c:af) (d f:ai):jb cx D e h (.binOp a b d f c)=none:=id rfl
@[simp]def aeX (b:af) (a:ah (Nat×ai)):jb cx D e h (.build b a)=none:=id rfl
@[simp]def aju (b:ai) (a:Nat):jb cx D e h (.extract b a)=none:=id rfl
@[simp]def agD (a:Call):jb cx D e h (.call a)=none:=id rfl
@[simp]def ajr (c:Fn) (a b:ah ai):jb cx D e h (.makeFunc c a b)=none:=id rfl
@[simp]def acQ (a b c d:Nat):fq (.fc a b c d)=some a:=id rfl
@[simp]theorem Di (a b f d:Nat) (c:Bool):fq (.arr a b f d c)=some a:=id rfl
@[simp]def abM (a:List T) (b:Bool):fq (.V a b)=none:=id rfl
@[simp]def abN (a:List T):fq (.ks a)=none:=id rfl
@[simp]def acR (a:ao) (n:Int):fq (.int a n)=none:=id rfl
end
variable {dl:DL}
def QK(cx:Ctx)(cf:jQ)(D:Nat)(a:List Oper)(f:aa (List (Nat×Nat)))(c:iM)(h:H)(b:jE):Prop:=match f with
 |none=>RK cx cf D a.toArray a c .nil h b
 |some d=>Yq cx cf D a.toArray d a 0 [] [] c .nil h b
@[simp]def ahs (a:List Oper) (c:iM) (h:H) (b:jE):QK cx cf D a none c h b=RK cx cf D a.toArray a c .nil h b:=id rfl
@[simp]def ahq (a:List Oper) (c:List (Nat×Nat)) (d:iM) (h:H) (b:jE):QK cx cf D a (some c) d h b=Yq cx cf D a.toArray c a 0 [] [] d .nil h b:=id rfl
def ZD(c:aa (Env×H))(d:jE):W (J c λg=>two g λb a=>some (.normal,(⟨b.vars,.nil⟩:Env),a)) d=∃b a,c=some (b,a)/\d.n ⟨b.vars,.nil⟩ a:=by
 cases c with
 |none=>apply propext;constructor<;>(first|(rintro⟨k,a,j,i,_⟩;simp_all)|simp)
 |some f=>
  obtain⟨b,a⟩:=f;simp only[fw,mv,GU,aw,aF]
  grind
@[simp]def aiZ (id:Nat) (b:List Oper) (f:Bool) (c d:iM) (h:H) (a:jE):W (kq cx cf n D dl (.region id b.toArray f) ⟨c,d⟩ h) a=QK cx cf D b (dl.lookup id) c h a:=by
 show W (SA cx cf D dl id b.toArray ⟨c,d⟩ h) a=_;unfold SA;cases dl.lookup id with
 |none=>exact ZD _ a
 |some g=>exact ZD _ a
@[simp]def aiX (b c:Code) (e:Env) (h:H) (a:jE):W (kq cx cf n D dl (.seq b c) e h) a=W (kq cx cf n D dl b e h) (I9 (kq cx cf n D dl c) a):=afT _ _ e h a
@[simp]def afW (id:Nat) (b:Code) (e:Env) (h:H) (a:jE):W (kq cx cf n D dl (.block id b) e h) a=W (kq cx cf n D dl b e h) (uO id a):=Yf id _ e h a
def CK(d:aa T)(cx:Ctx)(cf:jQ)(n D:Nat)(dl:DL)(b c:Code)(e:Env)(h:H)(a:jE):Prop:=UP d (W (kq cx cf n D dl b e h) a) (W (kq cx cf n D dl c e h) a)
@[simp]def ij (d:Bool) (b c:Code) (e:Env) (h:H) (a:jE):CK (some (.ez d)) cx cf n D dl b c e h a=if d=true then W (kq cx cf n D dl b e h) a else W (kq cx cf n D dl c e h) a:=id rfl
@[simp]def ahn (a:Nat) (f g:Code) (c b:iM) (h:H) (d:jE):W (kq cx cf n D dl (.cond (.tmp a) f g) ⟨c,b⟩ h) d=CK (if(D>>>a)&&&1=1 then M c a else M b a) cx cf n D dl f g ⟨c,b⟩ h d:=by
 rw[<-Ev];apply propext;unfold CK;show W (J (Env.get D ⟨c,b⟩ a) λi=>_) d↔_;cases Env.get D ⟨c,b⟩ a with
 |none=>simp[J,UP,Vz]
 |some i=>
  simp only[fw];cases i<;>simp only[UP,Vz];rename_i j;cases j<;>simp
@[simp]theorem ahl (b:Code) (e:Env) (h:H) (a:jE):W (kq cx cf n D dl (.loop b) e h) a=W (qt (kq cx cf n D dl b) n e h) a:=rfl
@[simp]def ahk (e:Env) (h:H) (a:jE):W (kq cx cf n D dl .skip e h) a=a.n e h:=GU e h a
@[simp]def ahm (id:Nat) (e:Env) (h:H) (a:jE):W (kq cx cf n D dl (.exit id) e h) a=a.x id e h:=JY id e h a
@[simp]def aiY (e:Env) (h:H) (a:jE):W (kq cx cf n D dl .ret e h) a=a.r e h:=afU e h a
end
end
section
noncomputable section
variable {cx:Ctx}{cf:jQ}{D:Nat}{e:Env}{h:H}
attribute [simp] Up nZ kx H.mI
@[simp]def aeo (c b:iM) (a:Nat):iG cx D ⟨c,b⟩ (.tmp a)=if(D>>>a)&&&1=1 then M c a else M b a:=Ev c b a
@[simp]theorem aep (a:ao) (b:Int):iG cx D e (.const (.int a b))=some (.int a b):=rfl
@[simp]theorem ach (a:Bool):iG cx D e (.const (.bool a))=some (.ez a):=rfl
@[simp]theorem acg:iG cx D e (.const (.slice none 0 0))=some (.V [] false):=rfl
@[simp]theorem Tl (b:ByteArray):iG cx D e (.const (.string b))=some (.str (b.data.toList.map UInt8.toNat)):=by
 show(J (Dh b.data.toList) λa=>some (T.str a))=_;have:∀a:List UInt8,Dh a=some (a.map UInt8.toNat):=by
  intro a;induction a with
  |nil=>rfl
  |cons f a c=>
   show(J (jd f.toNat) λg=>J (Dh a) λd=>some (g::d))=_;rw[c];simp
 rw[this];rfl
@[simp]theorem QO (a:ak):iG cx D e (.func a)=some (.func a []):=rfl
@[simp]theorem KG (a:List ai):s7 cx D e a=iH (iG cx D e) a:=rfl
def lJ(a:Int):aa Nat:=if 0<=a then some a.toNat else none
@[simp]theorem ab5 (b:ao) (a:Int):sL (.int b a)=lJ a:=by
 unfold lJ;cases a with
 |ofNat c=>rw[au G];rfl
 |negSucc c=>rw[Z B];rfl
@[simp]theorem MA (a:Nat):lJ (a:Int)=some a:=by unfold lJ;rw[au B];rfl
@[simp]def ZY (a:Nat):lJ (no_index (OfNat.ofNat a):Int)=some a:=MA a
def fU{a:Int}(h:0<=a):lJ a=some a.toNat:=by unfold lJ;rw[au h]
@[simp]theorem agw (a:ai):ke (.move a) cx D e h=val h (iG cx D e a):=rfl
@[simp]theorem aci (a:ai):ke (.assign a) cx D e h=val h (iG cx D e a):=rfl
def oY(a:aa T)(b c:aa nh):aa nh:=J a λa=>match a with| .ez d=>if d=true then b else c|_=>none
@[simp]theorem fK (c:Bool) (a b:aa nh):oY (some (.ez c)) a b=if c=true then a else b:=rfl
@[simp]def W7 (a b c:ai):ke (.pick a b c) cx D e h=oY (iG cx D e a) (val h (iG cx D e b)) (val h (iG cx D e c)):=by
 show(J (iG cx D e a) λa=>_)=_;unfold oY;cases iG cx D e a with
 |none=>rfl
 |some f=>cases f<;>first|rfl|(rename_i d;cases d<;>rfl)
@[simp]theorem aaY (a:Ty):zH cx a=(match a.u with
 | .array _ b=>Option.casesOn (cx.ty b) false λd=>(match d.u with| .int c=>G6 c .u8|_=>false)
 |_=>false):=rfl
@[simp]def aeK (b:af):ke (.alloc b) cx D e h=J (cx.ty b) λa=>if zH cx a=true then some (.val (.fc h.size 0 0 0) (h.cons (mY 1 true a.zero)))else some (.val (.fc h.size 0 0 0) (h.cons (mY a.size true [a.lH]))):=by
 show(J (cx.ty b) λa=>_)=_;cases cx.ty b with
 |none=>rfl
 |some a=>
  simp only[fw];cases zH cx a<;>simp
@[simp]theorem Re (b:Nat) (c:Bool) (a:List T):mY b c a=⟨b,0,0,c,false,a⟩:=rfl
@[simp]def aii (d:af) (b:ai):ke (.box d b) cx D e h=J (iG cx D e b) λa=>iS a.jc (some (.val (.fc h.size 0 0 0) (h.cons ⟨a.cells.length,0,0,true,false,[a]⟩))):=by
 show(J (iG cx D e b) λa=>iS a.jc (kr (h.new (λc=> .fc c 0 0 0) (mY (mJ a.cells) true [a]))))=_;simp
def AM(cx:Ctx)(D:Nat)(e:Env):List (Nat×ai)->aa (List (Nat×T))
 | []=>some []
 |(b,d)::c=>J (iG cx D e d) λa=>iS a.jc (J (AM cx D e c) λf=>some ((b,a)::f))
@[simp]theorem aao:AM cx D e []=some []:=rfl
@[simp]theorem KF (a:Nat) (c:ai) (b:List (Nat×ai)):AM cx D e ((a,c)::b)=J (iG cx D e c) λd=>iS d.jc (J (AM cx D e b) λf=>some ((a,d)::f)):=rfl
def Fv(a:List (Nat×ai)):partsOf cx D e a=AM cx D e a:=by
 induction a with
 |nil=>rfl
 |cons i a g=>
  obtain⟨f,c⟩:=i;show(J (J (iG cx D e c) λb=>iS b.jc (some (f,b))) λk=>J (partsOf cx D e a) λj=>some (k::j))=_;rw[g,KF];cases iG cx D e c with
  |none=>rfl
  |some b=>cases d:b.jc<;>simp[d]
def Gk(cx:Ctx)(c:List (Nat×af)):List (Nat×T)->List T->aa (List T)
 | [],a=>some a
 |(g,d)::i,a=>J (c[g]?) λb=>J (cx.ty b.2) λj=>iS (decide (d.cells.length=j.size)) (J (mG a b.1 d.cells) λf=>Gk cx c i f)
@[simp]theorem acF (b:List (Nat×af)) (a:List T):Gk cx b [] a=some a:=rfl
@[simp]theorem NI (a:List (Nat×af)) (f:Nat) (b:T) (g:List (Nat×T)) (c:List T):Gk cx a ((f,b)::g) c=J (a[f]?) λd=>J (cx.ty d.2) λj=>iS (decide (b.cells.length=j.size)) (J (mG c d.1 b.cells) λi=>Gk cx a g i):=rfl
def Jr(g:List (Nat×af)):∀(c:List (Nat×T)) (f:List T),oH (λb=>J (oo g b) λa=>J (cx.ty a.2) λd=>some (a.1,d.size)) c f=Gk cx g c f:=by
 intro c;induction c with
 |nil=>intro f;rfl
 |cons l c m=>
  intro f;obtain⟨b,j⟩:=l;show(J (J (oo g b) λa=>J (cx.ty a.2) λd=>some (a.1,d.size)) λi=>iS (Nat.beq (mJ j.cells) i.2) (J (mG f i.1 j.cells) λk=>oH (λb=>J (oo g b) λa=>J (cx.ty a.2) λd=>some (a.1,d.size)) c k))=_;rw[NI,mg];cases g[b]? with
  |none=>rfl
  |some a=>
   simp only[fw];cases cx.ty a.2 with
   |none=>rfl
   |some d=>simp_all
def Gp(b:Nat):List (Nat×T)->List T->aa (List T)
 | [],a=>some a
 |(f,c)::g,a=>iS (decide (c.cells.length=b)) (J (mG a (f*b) c.cells) λd=>Gp b g d)
@[simp]theorem acG (b:Nat) (a:List T):Gp b [] a=some a:=rfl
@[simp]theorem abb (a d:Nat) (b:T) (f:List (Nat×T)) (c:List T):Gp a ((d,b)::f) c=iS (decide (b.cells.length=a)) (J (mG c (d*a) b.cells) λg=>Gp a f g):=rfl
def Hw(a:Nat):∀(b:List (Nat×T)) (c:List T),oH (λd=>some (Nat.mul d a,a)) b c=Gp a b c:=by
 intro b;induction b with
 |nil=>intro c;rfl
 |cons i b j=>
  intro c;obtain⟨d,f⟩:=i;show(iS (Nat.beq (mJ f.cells) a) (J (mG c (Nat.mul d a) f.cells) λg=>oH (λd=>some (Nat.mul d a,a)) b g))=_;simp_all
@[simp]def ab8 (c b:T) (a:List T):mG (c::a) 0 [b]=some (b::a):=by rw[wy];simp
@[simp]def ab7 (f c d:T) (a b:List T):mG (f::a) 0 (c::d::b)=J (mG a 0 (d::b)) λg=>some (c::g):=by
 rw[wy,wy];simp only[aQ,cU,List.take_zero,cQ];by_cases hl:b.length+1<=a.length
 ·rw[au B,au B];simp
 simp_all[Z]
@[simp]theorem ad4 (a:T) (b d:List T) (c:Nat):mG (a::b) (c+1) d=J (mG b c d) λf=>some (a::f):=rfl
def N7(cx:Ctx)(h:H)(b:Ty)(c:List (Nat×T)):aa nh:=match b.u with
 | .struct f=>J (Gk cx f c b.zero) λa=>some (.val (.eZ a) h)
 | .array _ d=>J (cx.ty d) λg=>J (Gp g.size c b.zero) λa=>some (.val (.eZ a) h)
 |_=>none
@[simp]theorem acP (a:Ty) (c:List (Nat×T)):N7 cx h a c=(match a.u with
 | .struct f=>J (Gk cx f c a.zero) λb=>some (.val (.eZ b) h)
 | .array _ d=>J (cx.ty d) λg=>J (Gp g.size c a.zero) λb=>some (.val (.eZ b) h)
 |_=>none):=rfl
@[simp]def aeJ (c:af) (a:List (Nat×ai)):ke (.build c a.toArray) cx D e h=J (cx.ty c) λb=>J (AM cx D e a) λa=>N7 cx h b a:=by
 show(J (cx.ty c) λb=>J (partsOf cx D e a) λa=>_)=_;rw[Fv];congr 1;funext b;congr 1;funext a;unfold N7;cases b.u<;>first|rfl|(simp only[Jr,Hw,Bh])
def De(c:Nat):List (Nat×T)->List T->aa (List T)
 | [],a=>some a
 |(b,d)::f,a=>iS (decide (d.cells.length=c)) (iS (decide (b<a.length)) (De c f (a.set b d)))
@[simp]theorem abf (b:Nat) (a:List T):De b [] a=some a:=rfl
@[simp]theorem LL (c b:Nat) (d:T) (f:List (Nat×T)) (a:List T):De c ((b,d)::f) a=iS (decide (d.cells.length=c)) (iS (decide (b<a.length)) (De c f (a.set b d))):=rfl
def Jq(c:Nat):∀(b:List (Nat×T)) (a:List T),r8 c b a=De c b a:=by
 intro b;induction b with
 |nil=>intro a;rfl
 |cons k b j=>
  intro a;obtain⟨d,f⟩:=k;show(iS (Nat.beq (mJ f.cells) c) (J (mw a d f) λg=>r8 c b g))=_;simp only[kE,Cp,j,LL,mz];by_cases i:d<a.length<;>simp[i]
@[simp]def VU (f:af) (b:Nat) (c:List (Nat×ai)):ke (.buildSlice f b c.toArray) cx D e h=J (cx.ty f) λd=>(match d.u with
 | .slice g=>J (cx.ty g) λa=>J (AM cx D e c) λc=>iS (decide (1<=a.size))<|iS (decide (b*a.size<=65536)) (J (De a.size c (List.replicate b a.lH)) λi=>
  some (.val (.arr h.size 0 0 b false) (h.cons ⟨a.size,0,0,true,false,i⟩)))
 |_=>none):=by
 show(J (cx.ty f) λd=>_)=_;congr 1;funext d;cases d.u<;>first|rfl|skip
 simp[Ke,Re,X5,H.mI,sj,Jq,Fv]
@[simp]theorem agx (b:af) (a:ai):ke (.load b a) cx D e h=J (cx.ty b) λc=>J (iG cx D e a) λa=>val h (h.load c a):=rfl
def ldB(a:jK)(c d f:Nat)(g:Ty):aa T:=iS (decide (a.ep=c)) (if a.it=true then none else J (a.gW[d]?) λe=>J (kZ f e.cells) λb=>lK g b)
@[simp]def aaR (l b m:Nat) (k f:Bool) (c:List T) (a d g:Nat) (i:Ty):ldB ⟨l,b,m,k,f,c⟩ a d g i=iS (decide (b=a)) (if f=true then none else J (c[d]?) λe=>J (kZ g e.cells) λj=>lK i j):=id rfl
@[simp]def aaQ (j:Ty) (b c f i:Nat):h.load j (.fc b c f i)=J (h.get b) λa=>ldB a c f i j:=by
 show(J (J (h.get b) λa=>jK.casesOn a λ_ d _ _ g l=>iS (Nat.beq d c) (Bool.casesOn g (oo l f) none)) λe=>J (kZ i e.cells) λk=>lK j k)=_;cases h.get b with
 |none=>rfl
 |some a=>
  obtain⟨o,d,p,n,g,m⟩:=a;simp only[fw,aaR,Cp,mg];cases decide (d=c)<;>cases g<;>simp
def Kn(h:H)(c:Nat)(a:jK)(f b g:Nat)(i:List T):aa H:=iS (decide (a.ep=f)) (if a.it=true then none else J (a.gW[b]?) λe=>J (mS e g i) λd=>some (fJ h c ⟨a.sz,a.ep,a.ver+1,a.exact,false,a.gW.set b d⟩))
@[simp]def Z2 (d k a l:Nat) (g i:Bool) (b:List T) (f c j:Nat) (m:List T):Kn h d ⟨k,a,l,g,i,b⟩ f c j m=iS (decide (a=f)) (if i=true then none else J (b[c]?) λe=>J (mS e j m) λn=>some (fJ h d ⟨k,a,l+1,g,false,b.set c n⟩)):=id rfl
def BE{a:Nat}{m:jK}(f:h.get a=some m)(d:jK):h.put a d=some (fJ h a d):=by
 have:∃c,h.put a d=some c:=by
  obtain⟨b,g,i⟩:=h;rw[H.get_eq]at f;simp only at f;by_cases k:a<b
  ·rw[au k]at f;have hl:b-1-a<i.length:=by
    grind
   show∃c,(iS (Nat.blt a b) (J (mw i (Nat.sub (Nat.sub b 1) a) d) λj=> @Bool.rec (λ_=>aa H) (some ⟨b,g,j⟩) (some ⟨b,a,j⟩) (Nat.blt a g)))=some c;rw[show Nat.blt a b=true by rw[aK];exact k,jf,mz,au B,fw];cases Nat.blt a g<;>exact⟨_,rfl⟩
  grind
 obtain⟨c,l⟩:=this;unfold fJ;rw[l];rfl
@[simp]def agn (l:Ty) (a i b g:Nat) (c:T):h.store l (.fc a i b g) c=iS (decide (c.cells.length=l.size)) (J (h.get a) λd=>Kn h a d i b g c.cells):=by
 show(iS (Nat.beq (mJ c.cells) l.size) (J (h.get a) λd=>jK.casesOn d λo j p exact k n=>
  iS (Nat.beq j i) (@Bool.rec (λ_=>aa H) (J (oo n b) λe=>J (mS e g c.cells) λm=>J (mw n b m) λf=>
   J (jd (Nat.succ p)) λq=>h.put a ⟨o,j,q,exact,false,f⟩) none k)))=_
 simp only[kE,Cp];cases t:h.get a with
 |none=>rfl
 |some d=>
  obtain⟨o,j,p,r,k,f⟩:=d;simp only[fw,Z2];congr 1;congr 1;cases k with
  |true=>rfl
  |false=>
   simp only[mg,cC,br];cases s:f[b]? with
   |none=>rfl
   |some e=>
    simp only[fw];cases mS e g c.cells with
    |none=>rfl
    |some m=>
     have u:b<f.length:=by
      grind
     simp_all[BE,jt,mz,fw]
@[simp]theorem aeE (b:af) (a d:ai):ke (.store b a d) cx D e h=J (cx.ty b) λg=>J (iG cx D e a) λa=>J (iG cx D e d) λc=>iS c.jc (J (h.store g a c) λf=>some (.val .undef f)):=rfl
def ncW(h:H)(a:T):aa nh:=match a with| .fc .. | .ks _| .func .. =>some (.val a h)|_=>none
@[simp]theorem agy (a b c d:Nat):ncW h (.fc a b c d)=some (.val (.fc a b c d) h):=rfl
@[simp]theorem Zj (a:ai):ke (.nilCheck a) cx D e h=J (iG cx D e a) λb=>ncW h b:=rfl
@[simp]def acm (d f:ai) (b:ao) (c:Int) (a:T):BQ d f (.int b c) a=true:=id rfl
@[simp]def ack (c d:ai) (b:List Nat) (a:T):BQ c d (.str b) a=true:=id rfl
@[simp]def aaK (c d:ai) (b:Bool) (a:T):BQ c d (.ez b) a=true:=id rfl
@[simp]def aih (g j:af) (c d:ai):ke (.binOp .eql g c d j) cx D e h=J (cx.ty g) λi=>J (iG cx D e c) λa=>J (iG cx D e d) λb=>iS (BQ c d a b) (J (Ml cx i a b) λf=>some (.val (.ez f) h)):=by
 show(J (cx.ty g) λi=>J (iG cx D e c) λa=>J (iG cx D e d) λb=>iS (BQ c d a b) (J (Ml cx i a b) λf=>val h (Ak f)))=_;simp
@[simp]def ah8 (g j:af) (c d:ai):ke (.binOp .neq g c d j) cx D e h=J (cx.ty g) λi=>J (iG cx D e c) λa=>J (iG cx D e d) λb=>iS (BQ c d a b) (J (Ml cx i a b) λf=>some (.val (.ez !f) h)):=by
 show(J (cx.ty g) λi=>J (iG cx D e c) λa=>J (iG cx D e d) λb=>iS (BQ c d a b) (J (Ml cx i a b) λf=>val h (Ak (!f))))=_;simp
@[simp]def agW (d:Ty) (a:ao) (b c:Int) (f:d.u= .int a):Ml cx d (.int a b) (.int a c)=some (decide (b=c)):=by unfold Ml;rw[f];simp
@[simp]def agV (c:Ty) (a b:List Nat) (d:c.u= .str):Ml cx c (.str a) (.str b)=some (decide (a=b)):=by unfold Ml;rw[d];simp
@[simp]def afw (c:Ty) (a b:Bool) (d:c.u= .ez):Ml cx c (.ez a) (.ez b)=some (a==b):=by unfold Ml;rw[d];simp
def Ar(c:BinOp)(d f:aa T)(h:H):aa nh:=J d λa=>J f λb=>val h (binop c a b)
@[simp]theorem afe (c:BinOp) (a b:T):Ar c (some a) (some b) h=val h (binop c a b):=rfl
@[simp]theorem aij (c d:af) (a b:ai):ke (.binOp .add c a b d) cx D e h=Ar .add (iG cx D e a) (iG cx D e b) h:=rfl
@[simp]theorem ah5 (c d:af) (a b:ai):ke (.binOp .sub c a b d) cx D e h=Ar .sub (iG cx D e a) (iG cx D e b) h:=rfl
@[simp]theorem ah9 (c d:af) (a b:ai):ke (.binOp .mul c a b d) cx D e h=Ar .mul (iG cx D e a) (iG cx D e b) h:=rfl
@[simp]theorem ah7 (c d:af) (a b:ai):ke (.binOp .quo c a b d) cx D e h=Ar .quo (iG cx D e a) (iG cx D e b) h:=rfl
@[simp]theorem ah6 (c d:af) (a b:ai):ke (.binOp .rem c a b d) cx D e h=Ar .rem (iG cx D e a) (iG cx D e b) h:=rfl
@[simp]theorem aic (c d:af) (a b:ai):ke (.binOp .lss c a b d) cx D e h=Ar .lss (iG cx D e a) (iG cx D e b) h:=rfl
@[simp]theorem aid (c d:af) (a b:ai):ke (.binOp .leq c a b d) cx D e h=Ar .leq (iG cx D e a) (iG cx D e b) h:=rfl
@[simp]theorem aif (c d:af) (a b:ai):ke (.binOp .gtr c a b d) cx D e h=Ar .gtr (iG cx D e a) (iG cx D e b) h:=rfl
@[simp]theorem aig (c d:af) (a b:ai):ke (.binOp .geq c a b d) cx D e h=Ar .geq (iG cx D e a) (iG cx D e b) h:=rfl
@[simp]theorem ajk (a:UnOp) (d:af) (b:ai):ke (.unOp a d b) cx D e h=J (iG cx D e b) λc=>val h (unop a c):=rfl
@[simp]theorem Xa (c:af) (a:ai) (b:Nat):ke (.fieldAddr c a b) cx D e h=J (Ca cx c b) λd=>J (iG cx D e a) λa=>faV d.1 h a:=rfl
@[simp]def abc (c:af) (a:Nat):Ca cx c a=J (cx.ty c) λd=>(match d.u with| .struct b=>b[a]? |_=>none):=by
 show(J (cx.ty c) λd=>match d.u with| .struct b=>oo b a|_=>none)=_;simp
def fdW(h:H)(off:Nat)(c:Ty)(d:T):aa nh:=match d with| .eZ a=>J (kZ off a) λb=>val h (lK c b)|_=>none
@[simp]theorem agT (off:Nat) (b:Ty) (a:List T):fdW h off b (.eZ a)=J (kZ off a) λc=>val h (lK b c):=rfl
def ixW(cx:Ctx)(h:H)(g:Ty)(d:T)(c:Nat):aa nh:=match g.u with
 | .slice a=>J (cx.ty a) λb=>mo h b d c
 | .array f a=>J (cx.ty a) λb=>qR h f b d c
 |_=>none
@[simp]theorem aiz (f:Ty) (d:T) (b:Nat):ixW cx h f d b=(match f.u with
 | .slice a=>J (cx.ty a) λc=>mo h c d b
 | .array g a=>J (cx.ty a) λc=>qR h g c d b
 |_=>none):=rfl
@[simp]theorem W9 (c:af) (b a:ai):ke (.indexAddr c b a) cx D e h=J (cx.ty c) λf=>J (iG cx D e b) λb=>J (iG cx D e a) λa=>J (sL a) λd=>ixW cx h f b d:=rfl
@[simp]def acy (d:Ty) (b:List T) (f:Bool) (c:Nat):mo h d (.V b f) c=J (b[c]?) λa=>iS (decide (a.cells.length=d.size)) (some (.val (.ks a.cells) h)):=by
 show(J (oo b c) λa=>iS (Nat.beq (mJ a.cells) d.size) (some (nh.val (.ks a.cells) h)))=_;simp
@[simp]def Ux (i:Ty) (a c g f:Nat) (j:Bool) (d:Nat):mo h i (.arr a c g f j) d=iS (decide (d<f)) (J (h.get a) λb=>iS (decide (b.sz=i.size))<|iS (decide (b.ep=c)) (some (.val (.fc a c (g+d) 0) h))):=by
 show(iS (Nat.blt d f) (J (h.get a) λb=>iS (Nat.beq b.sz i.size)<|iS (Nat.beq b.ep c) (J (jd (Nat.add g d)) λk=>some (nh.val (.fc a c k 0) h))))=_;simp
def icW(cx:Ctx)(h:H)(l:Ty)(c:T)(a:Nat):aa nh:=match l.u with
 | .str=>(match c with| .str k=>J (k[a]?) λd=>some (.val (.int .u8 d) h)|_=>none)
 | .array i g=>(match c with
  | .eZ f=>J (cx.ty g) λb=>iS (decide (a<i)) (J (kZ (a*b.size) f) λj=>val h (lK b j))
  |_=>none)
 |_=>none
@[simp]theorem aiA (d:Ty) (b:T) (a:Nat):icW cx h d b a=(match d.u with
 | .str=>(match b with| .str l=>J (l[a]?) λf=>some (.val (.int .u8 f) h)|_=>none)
 | .array j i=>(match b with
  | .eZ g=>J (cx.ty i) λc=>iS (decide (a<j)) (J (kZ (a*c.size) g) λk=>val h (lK c k))
  |_=>none)
 |_=>none):=rfl
@[simp]theorem aeG (d:af) (a b:ai):ke (.index d a b) cx D e h=J (cx.ty d) λf=>J (iG cx D e a) λa=>J (iG cx D e b) λb=>J (sL b) λc=>icW cx h f a c:=by
 show(J (cx.ty d) λf=>J (iG cx D e a) λa=>J (iG cx D e b) λb=>J (sL b) λc=>match f.u with
  | .str=>(match a with| .str n=>J (oo n c) λi=>val h (some (.int .u8 (.ofNat i)))|_=>none)
  | .array l k=>(match a with
   | .eZ j=>J (cx.ty k) λg=>iS (Nat.blt c l) (J (kZ (Nat.mul c g.size) j) λm=>val h (lK g m))
   |_=>none)
  |_=>none)=_
 simp only[mg,X3,Bh];rfl
@[simp]theorem aaH (b:ai) (a:Nat):ke (.extract b a) cx D e h=J (iG cx D e b) λc=>exV h c a:=rfl
@[simp]def aeI (b:ak) (a:List ai) (f:ah af):ke (.call ⟨.value (.func b),a.toArray,f⟩) cx D e h=J (iH (iG cx D e) a) λc=>some (.call b c):=by
 show(J (s7 cx D e a) λa=>J (some (T.func b [])) λg=>match g with
  | .func b d=>J (HC a d) λc=>some (nh.call b c)
  |_=>none)=_
 simp
def afC(c:List T)(d:T):aa nh:=match d with| .func b a=>some (.call b (c++a))|_=>none
@[simp]theorem acJ (c:List T) (b:ak) (a:List T):afC c (.func b a)=some (.call b (c++a)):=rfl
@[simp]theorem aeH (c:Tmp) (a:List ai) (i:ah af):ke (.call ⟨.value (.tmp c),a.toArray,i⟩) cx D e h=J (iH (iG cx D e) a) λb=>J (iG cx D e (.tmp c)) λd=>afC b d:=by
 show(J (s7 cx D e a) λa=>J (iG cx D e (.tmp c)) λd=>match d with
  | .func g f=>J (HC a f) λb=>some (nh.call g b)
  |_=>none)=_
 simp only[KG,qY,fw];rfl
@[simp]theorem aie (a:List ai) (b:af):ke (.call ⟨.builtin .len,a.toArray,#[b]⟩) cx D e h=J (iH (iG cx D e) a) λc=>(match c with| [d]=>RH cx h [b] d|_=>none):=rfl
def Hm(cx:Ctx)(h:H)(g:Ty)(a:T):aa nh:=match g.u with
 | .str=>(match a with| .str f=>some (.val (.int .i64 f.length) h)|_=>none)
 | .slice _=>(match a with
  | .V b _=>some (.val (.int .i64 b.length) h)
  | .iX=>some (.val (.int .i64 0) h)
  | .arr _ _ _ c _=>some (.val (.int .i64 c) h)
  |_=>none)
 | .array d _=>some (.val (.int .i64 d) h)
 |_=>none
def Et(b:Ty)(a:T):Hm cx h b a=(match b.u with
 | .str=>(match a with| .str g=>some (.val (.int .i64 g.length) h)|_=>none)
 | .slice _=>(match a with
  | .V c _=>some (.val (.int .i64 c.length) h)
  | .iX=>some (.val (.int .i64 0) h)
  | .arr _ _ _ d _=>some (.val (.int .i64 d) h)
  |_=>none)
 | .array f _=>some (.val (.int .i64 f) h)
 |_=>none):=rfl
@[simp]def aeU (b:Ty) (a:List Nat) (c:b.u= .str):Hm cx h b (.str a)=some (.val (.int .i64 a.length) h):=by rw[Et,c]
@[simp]def acs (b:Ty) (a:List T) (c:Bool) (f:af) (d:b.u= .slice f):Hm cx h b (.V a c)=some (.val (.int .i64 a.length) h):=by rw[Et,d]
@[simp]def acr (a:Ty) (c:af) (b:a.u= .slice c):Hm cx h a .iX=some (.val (.int .i64 0) h):=by rw[Et,b]
@[simp]def aeV (b:Ty) (c d i a:Nat) (f:Bool) (j:af) (g:b.u= .slice j):Hm cx h b (.arr c d i a f)=some (.val (.int .i64 a) h):=by rw[Et,g]
@[simp]def ahg (a:af) (c:T):RH cx h [a] c=J (cx.ty a) λb=>Hm cx h b c:=by
 show(J (oo [a] 0) λa=>J (cx.ty a) λb=>_)=_;simp only[mg,List.getElem?_cons_zero,fw];congr 1;funext b;unfold Hm;cases b.u<;>first|rfl|(cases c<;>first|rfl|(simp;try rfl))
@[simp]theorem aia (a:List ai) (b:ah af):ke (.call ⟨.builtin .min,a.toArray,b⟩) cx D e h=J (iH (iG cx D e) a) λc=>mU .min cx h b.toList c:=rfl
@[simp]theorem aib (a:List ai) (b:ah af):ke (.call ⟨.builtin .max,a.toArray,b⟩) cx D e h=J (iH (iG cx D e) a) λc=>mU .max cx h b.toList c:=rfl
@[simp]def ail (f:List af) (a:ao) (b c:Int):mU .min cx h f [.int a b,.int a c]=some (.val (.int a (min b c)) h):=by
 show val h (iS (G6 a a) (AI a (@Bool.rec (λ_=>Int) b c (O9 c b))))=_;rw[uP,jf,qI,zx];simp only[Bh,aw,nh.val.injEq,T.int.injEq,true_and,and_true];by_cases d:c<b
 ·rw[bM d];grind
 ·rw[aS d];grind
@[simp]def aim (f:List af) (a:ao) (b c:Int):mU .max cx h f [.int a b,.int a c]=some (.val (.int a (max b c)) h):=by
 show val h (iS (G6 a a) (AI a (@Bool.rec (λ_=>Int) b c (O9 b c))))=_;rw[uP,jf,qI,zx];simp only[Bh,aw,nh.val.injEq,T.int.injEq,true_and,and_true];by_cases d:b<c
 ·rw[bM d];grind
 ·rw[aS d];grind
end
end
section
abbrev hE:H:=⟨0,0,[]⟩
structure G4(P:aj)(cx:Ctx)(f:ak)(fn:Func)(D:Nat)(dl:DL):Prop where
 at_:P.funcs[f]? =some fn
 ok:Aq ⟨fn,D,false,none⟩=true
 dr:oP dl (fn.body.getD .skip)=true
def oN(a:iM):Nat->List T->Prop
 |_,[]=>True
 |i,b::c=>M a i=some b/\oN a (i+1) c
@[simp]theorem ab4 (b:iM) (a:Nat):oN b a []=True:=rfl
@[simp]theorem ZJ (b:iM) (a:Nat) (c:T) (d:List T):oN b a (c::d)=(M b a=some c/\oN b (a+1) d):=rfl
def oG(D:Nat):∀(d a:Nat) (f:List T),f.length<=d->∃b,ot D d a f=some b/\(∀c,c<a->M b c=none)/\oN b a f:=by
 intro d;induction d with
 |zero=>
  intro a f hl;have:f=[]:=aZ B;subst this;exact⟨.nil,rfl,λ_ _=>rfl,trivial⟩
 |succ d q=>
  intro a f hl;have s:∀(e:List T) (b:iM) (c:Nat) (l:T) (g:Nat),c<g->oN b g e->oN (.cons c l b) g e:=by
   intro e;induction e with
   |nil=>simp
   |cons k e r=>
    intro b c l g t o;exact⟨by rw[nZ,Z B];exact o.1,r b c l (g+1) B o.2⟩
  cases f with
  |nil=>
   have⟨b,i,m,n⟩:=q (a+1) [] G;show∃b,(J (jd (Nat.succ a)) λj=> @Bool.rec (λ_=>aa iM) (ot D d j []) (J (ot D d j []) λh=>some (.cons a .undef h)) (lI D a))=some b/\_;rw[jt,fw];cases lI D a with
   |false=>exact⟨b,i,λc p=>m c B,trivial⟩
   |true=>
    refine⟨.cons a .undef b,?_,λc p=>?_,trivial⟩
    ·show(J (ot D d (a+1) []) λh=>some (iM.cons a .undef h))=_;rw[i];rfl
    ·rw[nZ,Z B];grind
  |cons k e=>
   have⟨b,i,m,n⟩:=q (a+1) e (by grind);refine⟨.cons a k b,?_,λc p=>?_,?_,s _ _ _ _ _ B n⟩
   ·show(J (jd (Nat.succ a)) λj=>J (ot D d j e) λh=>some (iM.cons a k h))=_;rw[jt,fw,i];rfl
   ·rw[nZ,Z B];grind
   simp
def Dm(cx:Ctx)(D:Nat)(d:List ResultVar)(e:iM)(b:H)(c:List T->Prop):Prop:=∃a,oX cx D ⟨e,.nil⟩ b d=some a/\c a
section
variable {P:aj}{cx:Ctx}{cf:jQ}{D:Nat}
@[simp]def afY (e:iM) (c:H) (b:List T->Prop):Dm cx D [] e c b=b []:=by
 apply propext;constructor
 ·rintro⟨d,hl,a⟩;have hl:some []=some d:=hl
  grind
 ·exact λa=>⟨[],rfl,a⟩
def WV(c:aa T)(b:T->Prop):Prop:=∃a,c=some a/\b a
@[simp]def aho (b:T) (d:T->Prop):WV (some b) d=d b:=by
 apply propext;constructor
 ·rintro⟨e,c,a⟩;simp only[aw]at c;subst c;exact a
 ·exact λa=>⟨b,rfl,a⟩
def IA(e:ResultVar)(f:List ResultVar)(a:iM)(b:H)(d:List T->Prop):Dm cx D (e::f) a b d=
 WV (ResultVar.casesOn e (λc=>Env.get D ⟨a,.nil⟩ c) (λg c=>J (Env.get D ⟨a,.nil⟩ g) λi=>J (cx.ty c) λj=>b.load j i)) λk=>Dm cx D f a b λh=>d (k::h):=by
 grind [oX,WV,Dm,kx,aw,eg,fw]
@[simp]def afX (e:Tmp) (d:List ResultVar) (a:iM) (b:H) (c:List T->Prop):Dm cx D (.tmp e::d) a b c=WV (Env.get D ⟨a,.nil⟩ e) λg=>Dm cx D d a b λf=>c (g::f):=IA _ d a b c
@[simp]def acW (e:Tmp) (f:af) (d:List ResultVar) (b:iM) (a:H) (c:List T->Prop):Dm cx D (.cell e f::d) b a c=WV (J (Env.get D ⟨b,.nil⟩ e) λh=>J (cx.ty f) λi=>a.load i h) λj=>Dm cx D d b a λg=>c (j::g):=IA _ d b a c
def B1(cx:Ctx)(D:Nat)(e:List ResultVar)(d:List T->H->Prop):jE:=
 ⟨λb a=>Dm cx D e b.vars a λc=>d c a,λ_ _ _=>False,λb a=>Dm cx D e b.vars a λc=>d c a⟩
@[simp]theorem aiy (d:List ResultVar) (c:List T->H->Prop) (b:Env) (a:H):(B1 cx D d c).n b a=Dm cx D d b.vars a λe=>c e a:=rfl
@[simp]theorem aix (d:List ResultVar) (c:List T->H->Prop) (b:Env) (a:H):(B1 cx D d c).r b a=Dm cx D d b.vars a λe=>c e a:=rfl
@[simp]theorem aiw (e:List ResultVar) (d:List T->H->Prop) (c:Nat) (a:Env) (b:H):(B1 cx D e d).x c a b=False:=rfl
def GT{g:Out}{h:List ResultVar}{f:List T->H->Prop}(i:W g (B1 cx D h f)):∃c b a,g=some (c,b,a)/\(c= .normal\/c= .ret)/\Dm cx D h b.vars a λj=>f j a:=by
 obtain⟨c,b,a,d,e⟩:=i;cases c with
 |normal=>exact⟨_,b,a,d,.inl rfl,e⟩
 |exit k=>simp_all
 |ret=>exact⟨_,b,a,d,.inr rfl,e⟩
def qH{i:List ResultVar}{a:Env}{f:H}{j:List T}(hl:oX cx D ⟨a.vars,.nil⟩ f i=some j):oX cx D a f i=some j:=by
 unfold oX at*
 induction i generalizing j with
 |nil=>exact hl
 |cons l i r=>
  rw[kx]at hl|-;have⟨d,g,hl⟩:=eg.1 hl;have⟨s,p,hl⟩:=eg.1 hl;simp only[aw]at hl;subst hl;have m:∀k d,Env.get D ⟨a.vars,.nil⟩ k=some d->Env.get D a k=some d:=by
   intro k d o;obtain⟨u,t⟩:=a;rw[Ev]at o|-;simp_all[Ic]
  have q:(@ResultVar.rec (λ_=>aa T) (λc=>Env.get D a c) (λe c=>J (Env.get D a e) λb=>J (cx.ty c) λh=>f.load h b) l)=some d:=by
   cases l with
   |tmp c=>grind
   |cell e c=>
    have g:(J (Env.get D ⟨a.vars,.nil⟩ e) λb=>J (cx.ty c) λh=>f.load h b)=some d:=g;have⟨b,n,g⟩:=eg.1 g;show(J (Env.get D a e) λb=>J (cx.ty c) λh=>f.load h b)=some d;rw[m e b n];exact g
  grind
end
def VD{l:Env->H->Out}(e:Nat)(g:Nat->iM->H->Prop){k:jE}
 (p:∀a d b,a<=e->g a d b->W (l ⟨d,.nil⟩ b) (AR (λc b=>c.tmps= .nil/\a<e/\g (a+1) c.vars b) k)) {j:Nat} (r:e<j) {a:Nat} (i:a<=e) {d:iM} {b:H} (h:g a d b):W (qt l j ⟨d,.nil⟩ b) k:=by
 refine VB (σ:=Nat) (I:=λa c b=>a<=e/\c.tmps= .nil/\g a c.vars b) (m:=λa=>e-a) ?_ j a _ _ B ⟨i,rfl,h⟩;rintro a ⟨d,t⟩ b ⟨i,ht,h⟩;simp only at ht h;subst ht;have⟨n,c,o,q,f⟩:=p a d b i h;refine⟨n,c,o,q,?_⟩;cases n with
 |normal=>exact⟨a+1,by have:=f.2.1;omega,by have:=f.2.1;omega,f.1,f.2.2⟩
 |exit s=>exact f
 |ret=>exact f
@[simp]def ajC:Hp hE=True:=by simp[Hp]
@[simp]def af6 (b:H) (c:jK):Hp (b.cons c)=Hp b:=by
 apply propext;constructor
 ·intro a;unfold Hp at*;simp[H.cons]at a;exact a
 ·exact λa=>Yn a c
end
section
mutual
def cn:T->T
 | .V b c=>(match b with| []=> .iX|e::b=> .V (cnL (e::b)) false)
 | .eZ a=> .eZ (cnL a)
 | .tuple a=> .tuple (cnL a)
 |v=>v
def cnL:List T->List T
 | []=>[]
 |x::a=>cn x::cnL a
end
def JJ:∀a:List T,cnL a=a.map cn
 | []=>by rw[cnL];rfl
 |x::b=>by rw[cnL,JJ b];rfl
def pB(a:List T)(b:Bool):cn (.V a b)=sl (a.map cn):=by
 cases a with
 |nil=>rw[cn];rfl
 |cons c a=>rw[cn,JJ];rfl
def xJ(a:List T):cn (.eZ a)= .eZ (a.map cn):=by rw[cn,JJ]
def wY(a:List T):cn (.tuple a)= .tuple (a.map cn):=by rw[cn,JJ]
@[simp]def UT:cn .undef= .undef:=by simp[cn]
@[simp]def PG (a:Bool):cn (.ez a)=(.ez a):=by simp[cn]
@[simp]def JI (a:ao) (b:Int):cn (.int a b)=(.int a b):=by simp[cn]
@[simp]def JH (a:List Nat):cn (.str a)=(.str a):=by simp[cn]
@[simp]def PC:cn .lU= .lU:=by simp[cn]
@[simp]def abt (a b c d:Nat):cn (.fc a b c d)=(.fc a b c d):=by simp[cn]
@[simp]def PA (a:List T):cn (.ks a)=(.ks a):=by simp[cn]
@[simp]def LS:cn .iX= .iX:=by simp[cn]
@[simp]def abv (a b e d:Nat) (c:Bool):cn (.arr a b e d c)=(.arr a b e d c):=by simp[cn]
@[simp]def XQ (b:ak) (a:List T):cn (.func b a)=(.func b a):=by simp[cn]
@[simp]def PF:cn .my= .my:=by simp[cn]
@[simp]def PD:cn .mB= .mB:=by simp[cn]
@[simp]def UV (a:af) (b:T):cn (.iface a b)=(.iface a b):=by simp[cn]
@[simp]def XP (a:Nat):cn (.iter a)=(.iter a):=by simp[cn]
@[simp]def abu (a:Nat):cn (.map a)=(.map a):=by simp[cn]
@[simp]def XO:cn .pS= .pS:=by simp[cn]
def Ir(a:T):(cn a).scalar=a.scalar:=by
 cases a with
 |V c d=>rw[pB];cases c<;>rfl
 |eZ b=>rw[xJ];rfl
 |tuple b=>rw[wY];rfl
 |_=>simp
theorem LT(a:T):(cn a).cells=a.cells.map cn:=by
 cases a with
 |V c d=>rw[pB];cases c<;>(show [_]=[_];rw[pB])
 |eZ b=>rw[xJ];rfl
 |tuple b=>rw[wY];show [_]=[_];rw[wY]
 |_=>simp[T.cells]
def XR(a:List T):iq (a.map cn)=(iq a).map cn:=by
 induction a with
 |nil=>rfl
 |cons b a c=>
  grind [iq,LT]
def lP.cn{a:T}(b:lP a):lP (cn a):=by
 induction b with
 |V d l _ g=>
  rw[pB];cases d with
  |nil=>exact .iX
  |cons k d=>
   exact .V _ _ (λa f=>by
    grind)
 |eZ c _ g=>
  rw[xJ];exact .eZ _ (λa f=>by
   grind)
 |ks c b=>rw[PA];exact .ks c b
 |ez e=>rw[PG];exact .ez e
 |int h i=>rw[JI];exact .int h i
 |str j=>rw[JH];exact .str j
 |lU=>rw[PC];exact .lU
 |iX=>rw[LS];exact .iX
 |my=>rw[PF];exact .my
 |mB=>rw[PD];exact .mB
def iu.cn{hp:ah Obj}{μ:Mu}{b:T}{o:aq}(a:iu hp μ b o):iu hp μ (cn b) o:=by
 induction a with
 |pP u c=>rw[pB];exact .iX c 0
 |V i j u r off s Q arr n fz x w hl R S h l hr m=>
  rw[pB];show iu hp μ (.V (Go.TI.cn i::j.map Go.TI.cn) false) _;have D:iq (Go.TI.cn i::j.map Go.TI.cn)=(iq (i::j)).map Go.TI.cn:=XR (i::j);have:=iu.V (hp:=hp) (μ:=μ) (Go.TI.cn i) (j.map Go.TI.cn) false r off s Q arr n fz x w (by grind) G (λb e=>?_) ?_ ?_ ?_
  ·grind
  ·have e:b∈(i::j).map Go.TI.cn:=e;obtain⟨q,p,rfl⟩:=List.mem_map.1 e;rw[LT,aI];grind
  ·rw[D,aI];exact h
  ·intro b e;rw[D]at e;obtain⟨q,p,rfl⟩:=List.mem_map.1 e;exact⟨by rw[Ir];exact(l q p).1,(l q p).2.cn⟩
  grind
 |eZ A k h l hr m=>
  rw[xJ];refine .eZ _ k (by grind) (λb e=>?_) λz b E=>?_
  ·obtain⟨q,p,rfl⟩:=List.mem_map.1 e;rw[Ir];grind
  grind
 |tuple U k h hr m=>
  rw[wY];refine .tuple _ k (by grind) λz b E=>?_;rw[aR]at E
  grind
 |ks A r off arr n fz x w h l hr m=>rw[PA];exact .ks A r off arr n fz x w h l hr
 |undef=>rw[UT];exact .undef
 |ez d=>rw[PG];exact .ez d
 |int z M=>rw[JI];exact .int z M
 |str O a=>rw[JH];exact .str O a
 |lU=>rw[PC];exact .lU
 |fc d t y K f c g v J=>rw[abt];exact .fc d t y K f c g v J
 |iX c s=>rw[LS];exact .iX c s
 |arr d t N L u f c H g v hl a=>rw[abv];exact .arr d t N L u f c H g v hl a
 |func I F k h hr m=>rw[XQ];exact .func I F k h hr
 |my=>rw[PF];exact .my
 |mB=>rw[PD];exact .mB
 |iface n b o a m=>rw[UV];exact .iface n b o a
 |iter d f c g a=>rw[XP];exact .iter d f c g a
 |map d f y g a=>rw[abu];exact .map d f y g a
 |pS=>rw[XO];exact .pS
def iW.cn{f:ah Obj}{h:Mu}{c:List T}{d:List aq}(e:iW f h c d):iW f h (c.map Go.TI.cn) d:=by
 refine⟨by simpa using e.1,λg j a=>?_⟩;rw[aR]at a;cases b:c[g]? with
 |none=>rw[b]at a;grind
 |some i=>rw[b]at a;simp at a;subst a;exact(e.2 g i b).cn
mutual
def nW:T->Bool
 | .ez _| .int _ _| .str _| .lU| .my| .mB| .pS| .iX=>true
 | .eZ a=>qN a
 | .tuple a=>qN a
 |_=>false
def qN:List T->Bool
 | []=>true
 |x::a=>nW x&&qN a
end
def DD{a:List T}(c:qN a=true):∀b∈a,nW b=true:=by
 induction a with
 |nil=>simp
 |cons f a e=>
  intro b d;rw[qN,az]at c
  grind
def iu.plain{n o:ah Obj}{r s:Mu}{a:T}{i:aq}(f:iu n r a i)(c:nW a=true):iu o s a i:=by
 induction f with
 |ez k=>exact .ez k
 |int d p=>exact .int d p
 |str q f=>exact .str q f
 |lU=>exact .lU
 |my=>exact .my
 |mB=>exact .mB
 |pS=>exact .pS
 |iX j l=>exact .iX j l
 |eZ t e g m hr h=>
  rw[nW]at c;exact .eZ _ e g m λd a b=>h d a b (DD c a (aC b))
 |tuple u e g hr h=>
  rw[nW]at c;exact .tuple _ e g λd a b=>h d a b (DD c a (aC b))
 |_=>simp[nW]at c
section
variable {P:aj}{cx:Ctx}
def RP{b:Mu}{a:Nat}:pG (ox 0 b) a↔b.rf a:=by
 constructor
 ·rintro(⟨e,d,c,_⟩|hr)
  ·exact absurd (ls c).1 B
  ·exact hr
 ·exact λhr=> .inr hr
def QE{z:ak}{o k:List T}{w:T}{s:H}(J:mM P cx z (k.map cn) w)(u:iH (lM s 0) o=some k)(hr:nW w=true):sg P cx ⟨z,o,s,w,s⟩:=by
 intro ae d f x b D;have I:iW d.heap (ox 0 f) k x.toList:=by
  have A:jw (λj W=>∀p,iu d.heap f j p->iu d.heap (ox 0 f) W p) o k:=jw.map (λn m y R p K=>tO b K R) u;refine⟨by rw[<-A.length];exact D.1,λS j M=>?_⟩;have⟨n,m,u⟩:=A.get M;exact u _ (D.2 S n m)
 have V:St cx d.heap.size d.heap (ox 0 f) hE:=by
  refine⟨rfl,ax _,λh e c=>absurd (ls c).1 B,λh ab e Z c=>absurd (ls c).1 B,λh e c=>absurd (ls c).1 B,λh e c=>absurd (ls c).1 B,λa hr=>b.tV a hr,λr q v=>?_⟩;have:=b.B7 r q v;refine this.cut ?_;have⟨_,_,_,_,_,_,_,_,_,O,_⟩:=this.nM;exact .ks _ λj Q=>(O j Q).2.low 0
 refine(J d.heap.size d (ox 0 f) x hE V I.cn).mono λj F ⟨⟨av,U,al,g,an⟩,ap⟩=>?_;have E:∀a,a<d.heap.size->¬f.rf a->F.heap[a]? =d.heap[a]? :=λa i l=>(g.ext.pN a i λL=>l (RP.1 L)).1;have t:Ext d.heap f F.heap f:=by
  refine⟨g.ext.size,λa i l=>⟨E a i λhr=>l (.inr hr),l⟩,λh e c=>⟨e,c,.inl rfl⟩,rfl,λa i hr=>g.ext.kept a i hr⟩
 refine⟨⟨f,U.plain hr,⟨b.wf,aU b.fit g.ext.size,λh e c=>?_,b.inj,b.low,b.apart,λa hr=>bK (b.tV a hr) g.ext.size,λr q v=>(b.B7 r q v).ext t⟩,⟨t,g.os,g.tape,g.output⟩,Bb.refl _ _⟩,mR.refl b.wf⟩;have⟨n,m,N⟩:=b.box h e c;exact⟨n,m,N.ext t (E e.jO (b.lt c) (b.apart h e c))⟩
def QD{c:ak}{b:List T}{d:T}{a:H}(h:mM P cx c (b.map cn) d):sg P cx ⟨c,b,a,d,a⟩:=
 λe j k f i g=>h e j k f a i g.cn
structure iK where
 α:Type
 A:α->List T
 pre:α->Prop
 R:α->T
 inj:∀a b,A a=A b->R a=R b
structure mN where
 pre:List T->H->Prop
 post:List T->H->T->H->Prop
structure io where
 p:ak->aa iK
 h:ak->aa mN
open Classical in
def rl(P:aj)(cx:Ctx)(f:io)(d:ak)(c:List T):aa T:=match f.p d with
 |none=>none
 |some a=>if e:∃b,a.pre b/\a.A b=c/\mM P cx d c (a.R b)then some (a.R e.choose)else none
open Classical in
def hl(P:aj)(cx:Ctx)(g:io)(c:ak)(b:List T)(d:H):aa (T×H):=match g.h c with
 |none=>none
 |some e=>if f:∃a:T×H,e.post b d a.1 a.2/\sg P cx ⟨c,b,d,a.1,a.2⟩then some f.choose else none
def Ae(h:H)(d:Nat)(v:T):aa T:=J (freeze h 0 d v) λv=>some (cn v)
def fz(b:H)(a:T):aa T:=J (jA b 0 a) λa=>some (cn a)
def rZ(b:H)(a:T):aa T:=J (lM b 0 a) λa=>some (cn a)
def Vn(b:H)(a:List T):aa (List T):=iH (rZ b) a
mutual
def kT:T->Bool
 | .ez _| .int _ _| .str _| .lU| .V _ _| .iX| .my| .mB=>true
 | .eZ a=>qG a
 |_=>false
def qG:List T->Bool
 | []=>true
 |x::a=>kT x&&qG a
end
def tz(P:aj)(cx:Ctx)(d:io):jQ:=λc a b=>match Vn b a with
 |none=>hl P cx d c a b
 |some f=>match rl P cx d c f with
  |none=>hl P cx d c a b
  |some e=>if(nW e||qG a)=true then some (e,b)else hl P cx d c a b
def uN{f g j:Type}(b:f->aa g)(d:g->j):∀a:List f,iH (λc=>J (b c) λe=>some (d e)) a=J (iH b a) λi=>some (i.map d):=by
 intro a;induction a with
 |nil=>rfl
 |cons c a h=>
  rw[kx,kx,h];cases b c with
  |none=>rfl
  |some e=>simp only[fw];cases iH b a<;>rfl
def L9{c:H}{a b:List T}(d:Vn c a=some b):∃e,iH (lM c 0) a=some e/\b=e.map cn:=by
 unfold Vn rZ at d;rw[uN]at d
 grind [eg,hl,aw]
mutual
def vQ(e:H)(g d:Nat):(b:T)->kT b=true->(∀c,b≠ .eZ c)->freeze e g (d+1) b=some b
 | .ez _,_,_=>rfl
 | .int _ _,_,_=>rfl
 | .str _,_,_=>rfl
 | .lU,_,_=>rfl
 | .V _ _,_,_=>rfl
 | .iX,_,_=>rfl
 | .my,_,_=>rfl
 | .mB,_,_=>rfl
 | .eZ c,_,f=>absurd rfl (f c)
 | .undef,a,_=>by grind [kT]
 | .fc ..,a,_=>by grind [kT]
 | .ks _,a,_=>by grind [kT]
 | .arr ..,a,_=>by grind [kT]
 | .func ..,a,_=>by grind [kT]
 | .iface ..,a,_=>by grind [kT]
 | .iter _,a,_=>by grind [kT]
 | .map _,a,_=>by grind [kT]
 | .pS,a,_=>by grind [kT]
 | .tuple _,a,_=>by grind [kT]
end
def tQ(b:H){a:T}(e:kT a=true)(d:∀c,a≠ .eZ c):jA b 0 a=some a:=by
 have:=vQ b 0 11 a e d;cases a<;>first|exact this|rfl
def EY{a:List T}(c:qG a=true):∀b∈a,kT b=true:=by
 induction a with
 |nil=>simp
 |cons f a e=>
  intro b d;rw[qG,az]at c
  grind
def Vm{b:H}{a d:List T}{base:Nat}{o:ah Obj}{t:Mu}{j:List aq}(m:iW o t a j)(p:qG a=true)(n:Vn b a=some d):d=a.map cn:=by
 obtain⟨v,hl,rfl⟩:=L9 n;have:iH (lM b 0) a=some a:=by
  refine vK λh e=>?_;have f:=EY p h e;have⟨w,r⟩:=m.mem e;cases h with
  |eZ l=>
   show(J (iH (jA b 0) l) λs=>some (T.eZ s))=_;obtain⟨u,rfl,_,q⟩:=r.sH;rw[vK λi g=>tQ b (EY (by rw[kT]at f;omega) i g) (λk c=>by have:=q i g;rw[c]at this;grind [T.scalar])];rfl
  |_=>exact tQ b f (λk c=>by simp at c)
 rw[this]at hl;simp only[aw]at hl;rw[hl]
def Kv{e:io}{c:ak}{b:List T}{d:T}(a:rl P cx e c b=some d):mM P cx c b d:=by
 unfold rl at a;split at a
 ·grind
 ·split at a
  ·grind
  grind
def F4{h:io}{c:ak}{b:List T}{d e:H}{f:T}(a:hl P cx h c b d=some (f,e)):sg P cx ⟨c,b,d,f,e⟩:=by
 unfold hl at a;split at a
 ·grind
 ·split at a
  ·rename_i g;simp only[aw]at a;have:=g.choose_spec.2;rw[a]at this;omega
  grind
def GC(P:aj)(cx:Ctx)(j:io):pL P cx (tz P cx j):=by
 intro m k n q o a base f g d e b;unfold tz at a;split at a
 ·exact F4 a base f g d e b
 ·rename_i l h;split at a
  ·exact F4 a base f g d e b
  ·rename_i r hr;split at a
   ·rename_i c;simp only[aw,aF]at a;obtain⟨rfl,rfl⟩:=a;rw[cu]at c;rcases c with c|c
    ·obtain⟨p,hl,rfl⟩:=L9 h;exact QE (Kv hr) hl c base f g d e b
    ·have i:=Vm (base:=base) b c h;subst i;exact QD (Kv hr) base f g d e b
   ·exact F4 a base f g d e b
def iK.Ok(P:aj)(cx:Ctx)(c:ak)(b:iK):Prop:=∀a,b.pre a->mM P cx c (b.A a) (b.R a)
def iN{g:io}{c:ak}{a:iK}(ht:g.p c=some a)(h:a.Ok P cx c)(b:a.α)(e:a.pre b):rl P cx g c (a.A b)=some (a.R b):=by
 have f:∃d,a.pre d/\a.A d=a.A b/\mM P cx c (a.A b) (a.R d):=⟨b,e,rfl,h b e⟩;unfold rl;rw[ht];simp only;rw[dif_pos f,a.inj _ _ f.choose_spec.2.1]
def mN.Ok(P:aj)(cx:Ctx)(f:ak)(c:mN):Prop:=∀a b,c.pre a b->∃e d,c.post a b e d/\sg P cx ⟨f,a,b,e,d⟩
def Il{tb:io}{d:ak}{c:mN}(ht:tb.h d=some c)(l:c.Ok P cx d){a:List T}{b:H}(m:c.pre a b):∃i e,hl P cx tb d a b=some (i,e)/\c.post a b i e:=by
 have⟨i,e,j,k⟩:=l a b m;have f:∃g:T×H,c.post a b g.1 g.2/\sg P cx ⟨d,a,b,g.1,g.2⟩:=⟨(i,e),j,k⟩;refine⟨f.choose.1,f.choose.2,?_,f.choose_spec.1⟩;unfold hl;rw[ht];simp only;rw[dif_pos f]
theorem En{b:io}{a:ak}(ht:b.p a=none)(c:List T):rl P cx b a c=none:=by unfold rl;rw[ht]
def cfV(e:aa T)(c:Bool)(d:H)(a:aa (T×H)):aa (T×H):=match e with
 |none=>a
 |some b=>if(nW b||c)=true then some (b,d)else a
@[simp]def afD (b:Bool) (c:H) (a:aa (T×H)):cfV none b c a=a:=id rfl
@[simp]def UY (a:T) (b:Bool) (c:H) (d:aa (T×H)):cfV (some a) b c d=if(nW a||b)=true then some (a,c)else d:=id rfl
def cfW(P:aj)(cx:Ctx)(e:io)(c:ak)(a:List T)(d:H)(b:aa (List T)):aa (T×H):=match b with
 |none=>hl P cx e c a d
 |some b=>cfV (rl P cx e c b) (qG a) d (hl P cx e c a d)
@[simp]def UX (d:io) (b:ak) (a:List T) (c:H):cfW P cx d b a c none=hl P cx d b a c:=id rfl
@[simp]def UW (d:io) (b:ak) (a e:List T) (c:H):cfW P cx d b a c (some e)=cfV (rl P cx d b e) (qG a) c (hl P cx d b a c):=id rfl
def UZ(d:io)(c:ak)(a:List T)(b:H):tz P cx d c a b=cfW P cx d c a b (Vn b a):=by
 unfold tz cfW cfV;cases Vn b a with
 |none=>rfl
 |some e=>rfl
end
end
section
section
variable {cx:Ctx}{h:H}
@[simp]def aiG (a:ao) (b:Int):fz h (.int a b)=some (.int a b):=id rfl
@[simp]def agK (a:Bool):fz h (.ez a)=some (.ez a):=id rfl
@[simp]def aiE (a:List Nat):fz h (.str a)=some (.str a):=id rfl
@[simp]def Xk (a:List T) (b:Bool):fz h (.V a b)=some (sl (a.map cn)):=by
 show some (cn (.V a b))=_;rw[pB]
@[simp]def aa8 (a b c d:Nat):fz h (.fc a b c d)=none:=by
 unfold fz jA;simp
@[simp]def agQ (c:Nat) (a:ao) (b:Int):Ae h (c+1) (.int a b)=some (.int a b):=id rfl
@[simp]def afq (b:Nat) (a:Bool):Ae h (b+1) (.ez a)=some (.ez a):=id rfl
@[simp]def agO (b:Nat) (a:List Nat):Ae h (b+1) (.str a)=some (.str a):=id rfl
@[simp]def Uy (c:Nat) (a:List T) (b:Bool):Ae h (c+1) (.V a b)=some (sl (a.map cn)):=by
 show some (cn (.V a b))=_;rw[pB]
@[simp]def Xm (b:Nat) (a:List T):Ae h (b+1) (.eZ a)=J (iH (Ae h b) a) λc=>some (.eZ c):=by
 show(J (J (iH (freeze h 0 b) a) λc=>some (T.eZ c)) λd=>some (cn d))=_;unfold Ae;rw[uN];cases iH (freeze h 0 b) a with
 |none=>rfl
 |some c=>simp[xJ]
def iR(c e b d:Nat)(l:Bool):h.j1 (.arr c e b d l)=J (h.get c) λa=>iS (decide (a.ep=e)) (if a.it=true then none else if b+d<=a.gW.length then some ((a.gW.drop b).take d)else none):=by
 show(J (h.get c) λa=>jK.casesOn a λ_ g _ _ f j=>iS (Nat.beq g e) (Bool.casesOn f (J (kZ b j) λm=>takeN d m) none))=_;cases h.get c with
 |none=>rfl
 |some a=>
  obtain⟨o,g,p,n,f,k⟩:=a;simp only[fw,Cp];congr 1;cases f with
  |true=>rfl
  |false=>
   simp only[cC,br,nO,pR];by_cases i:b<=k.length
   ·rw[au i,fw]
    grind
   ·rw[Z i,Z B];rfl
def AW(i a c e d:Nat)(k:Bool):Ae h (i+1) (.arr a c e d k)=J (h.j1 (.arr a c e d k)) λf=>J (iH (Ae h i) f) λb=>some (sl b):=by
 have p:freeze h 0 (i+1) (.arr a c e d k)=iS (Nat.ble 0 a) (J (h.get a) λg=>jK.casesOn g λ_ j _ exact l m=>
  iS (Nat.beq j c) (@Bool.rec (λ_=>aa T) (J (J (kZ e m) λb=>takeN d b) λf=>J (iH (freeze h 0 i) f) λn=>
   @List.rec T (λ_=>aa T) (@List.rec T (λ_=>aa T) (@Bool.rec (λ_=>aa T) (some T.iX) (some (T.V [] false)) exact) (λ_ _ _=>some T.iX) m) (λ_ _ _=>some (T.V n k)) n) none l)):=rfl
 have q:h.j1 (.arr a c e d k)=J (h.get a) λg=>jK.casesOn g λ_ j _ _ l m=>iS (Nat.beq j c) (@Bool.rec (λ_=>aa (List T)) (J (kZ e m) λb=>takeN d b) none l):=rfl;unfold Ae;rw[p,q];rw[show Nat.ble 0 a=true by simp,jf];cases h.get a with
 |none=>rfl
 |some g=>
  obtain⟨r,j,s,o,l,f⟩:=g;simp only[fw];cases Nat.beq j c with
  |false=>rfl
  |true=>
   simp only[jf];cases l with
   |true=>rfl
   |false=>
    simp only;cases (J (kZ e f) λb=>takeN d b)with
    |none=>rfl
    |some es1=>
     simp only[fw];rw[uN];cases iH (freeze h 0 i) es1 with
     |none=>rfl
     |some Ea=>
      simp only[fw];cases Ea with
      |nil=>
       cases f with
       |nil=>cases o<;>simp[pB,sl]
       |cons=>simp[sl]
      |cons g b=>simp[pB]
@[simp]def xE (a b e d:Nat) (c:Bool):fz h (.arr a b e d c)=J (h.j1 (.arr a b e d c)) λf=>J (iH (Ae h 11) f) λg=>some (sl g):=by
 rw[<-AW];unfold fz Ae jA;simp only;rw[show Nat.ble 0 a=true by simp]
def PB(a:List T):cn (sl a)=sl (a.map cn):=by
 cases a with
 |nil=>rfl
 |cons c b=>exact pB (c::b) false
def afl(a:List T):fz h (sl a)=some (sl (a.map cn)):=by cases a<;>first|rfl|exact Xk _ _
def aa9(b:Nat)(a:List T):Ae h (b+1) (sl a)=some (sl (a.map cn)):=by cases a<;>first|rfl|exact Uy b _ _
@[simp]def aiT {d:Type} (a:d->T) (c:List d) (e:∀b,cn (a b)=a b):cn (sl (c.map a))=sl (c.map a):=by
 rw[PB,List.map_map];congr 2;funext b;grind
@[simp]def aiF {d:Type} (a:d->T) (c:List d) (e:∀b,cn (a b)=a b):fz h (sl (c.map a))=some (sl (c.map a)):=by
 rw[afl,List.map_map];congr 3;funext b;grind
@[simp]def agP {d:Type} (e:Nat) (a:d->T) (c:List d) (f:∀b,cn (a b)=a b):Ae h (e+1) (sl (c.map a))=some (sl (c.map a)):=by
 rw[aa9,List.map_map];congr 3;funext b;grind
@[simp]def K8 {e:Type} (c:T->aa T) (a:e->T) (d:List e) (f:∀b,c (a b)=some (a b)):iH c (d.map a)=some (d.map a):=vK λb g=>by
 grind
@[simp]def Pi (a:List T):rZ h (.eZ a)=J (iH (fz h) a) λb=>some (.eZ b):=by
 show(J (J (iH (jA h 0) a) λb=>some (T.eZ b)) λc=>some (cn c))=_;unfold fz;rw[uN];cases iH (jA h 0) a with
 |none=>rfl
 |some b=>simp[xJ]
@[simp]def agN (a:ao) (b:Int):rZ h (.int a b)=some (.int a b):=id rfl
@[simp]def afo (a:Bool):rZ h (.ez a)=some (.ez a):=id rfl
@[simp]def agL (a:List Nat):rZ h (.str a)=some (.str a):=id rfl
@[simp]def afm (a:List T) (b:Bool):rZ h (.V a b)=fz h (.V a b):=id rfl
@[simp]theorem aiH (a:List T):rZ h (sl a)=fz h (sl a):=by cases a<;>rfl
@[simp]def Xl (a b e d:Nat) (c:Bool):rZ h (.arr a b e d c)=fz h (.arr a b e d c):=id rfl
@[simp]def agM (a b c d:Nat):rZ h (.fc a b c d)=none:=aa8 (h:=h) a b c d
@[simp]def ahh:Vn h []=some []:=id rfl
@[simp]def afN (b:T) (a:List T):Vn h (b::a)=J (rZ h b) λd=>J (Vn h a) λc=>some (d::c):=id rfl
@[simp]def Z7:qG []=true:=by rw[qG]
@[simp]def YW (b:T) (a:List T):qG (b::a)=(kT b&&qG a):=by rw[qG]
@[simp]def aca (a:ao) (b:Int):kT (.int a b)=true:=by rw[kT]
@[simp]def Z9 (a:Bool):kT (.ez a)=true:=by rw[kT]
@[simp]def ab9 (a:List Nat):kT (.str a)=true:=by rw[kT]
@[simp]def Z8 (a:List T) (b:Bool):kT (.V a b)=true:=by rw[kT]
@[simp]def YX:kT .iX=true:=by rw[kT]
@[simp]def ad7 (a:List T):kT (sl a)=true:=by cases a<;>simp[sl]
@[simp]def acd (a:List T):kT (.eZ a)=qG a:=by rw[kT]
@[simp]def acb (a b e d:Nat) (c:Bool):kT (.arr a b e d c)=false:=by simp[kT]
@[simp]def Zf:qN []=true:=by rw[qN]
@[simp]def Wo (b:T) (a:List T):qN (b::a)=(nW b&&qN a):=by rw[qN]
@[simp]def aam (a:ao) (b:Int):nW (.int a b)=true:=by rw[nW]
@[simp]def Zg (a:Bool):nW (.ez a)=true:=by rw[nW]
@[simp]def Wq:nW .iX=true:=by rw[nW]
@[simp]def Wp (a:List T):nW (.tuple a)=qN a:=by rw[nW]
@[simp]def Pa (a:List T):oQ (sl a)=nK a:=by cases a<;>simp[sl]
@[simp]def agz {c:Type} (a:c->T) (b:List c) (d:∀e,oQ (a e)=true):nK (b.map a)=true:=Rg a d b
@[simp]theorem afE (a:List T):(sl a).cells=[sl a]:=by cases a<;>rfl
@[simp]theorem agI (a:List T):(sl a).jc=true:=by cases a<;>rfl
@[simp]def afi (a b e d:Nat) (c:Bool):(T.arr a b e d c).jc=true:=id rfl
@[simp]def afg (a b c d:Nat):(T.fc a b c d).jc=true:=id rfl
@[simp]def acN (a b e d:Nat) (c:Bool):(T.arr a b e d c).cells=[.arr a b e d c]:=id rfl
@[simp]def acL (a b c d:Nat):(T.fc a b c d).cells=[.fc a b c d]:=id rfl
@[simp]def agA (b:Ty) (a:List T) (d:af) (c:b.u= .slice d):Hm cx h b (sl a)=some (.val (.int .i64 a.length) h):=by cases a<;>simp[sl,c]
@[simp]theorem agG (c:Ty) (a:List T) (b:Nat):mo h c (sl a) b=J (a[b]?) λd=>iS (decide (d.cells.length=c.size)) (some (.val (.ks d.cells) h)):=by cases a<;>simp[sl];rfl
@[simp]theorem Uu (a:List T):h.j1 (sl a)=some a:=by cases a<;>rfl
def CE{a b:List T}(c:sl a=sl b):a=b:=by
 cases a<;>cases b<;>simp[sl]at c
 ·rfl
 grind
def jV{f:Type}{a:f->T}(i:∀d e,a d=a e->d=e){b c:List f}(g:sl (b.map a)=sl (c.map a)):b=c:=by
 have:=CE g
 grind [List.map_inj_right]
@[simp]def fk (b:jK) (a:Nat):(h.cons b).get a=if a=h.size then some b else h.get a:=by
 rw[H.get_eq,H.get_eq];show(if a<h.size+1 then(b::h.ir)[h.size+1-1-a]? else none)=_
 grind
def eG{a:Nat}{x:jK}(k:h.get a=some x)(d:jK)(f:Nat):(fJ h a d).get f=if f=a then some d else h.get f:=by
 have c:=BE k d;generalize fJ h a d=g at*
 obtain⟨b,i,e⟩:=h;have l:a<b:=H.gh k;have c:(iS (Nat.blt a b) (J (mw e (Nat.sub (Nat.sub b 1) a) d) λj=> @Bool.rec (λ_=>aa H) (some ⟨b,i,j⟩) (some ⟨b,a,j⟩) (Nat.blt a i)))=some g:=c;rw[show Nat.blt a b=true by rw[aK];exact l,jf,mz]at c;by_cases hl:Nat.sub (Nat.sub b 1) a<e.length
 ·rw[au hl,fw]at c;have p:g.size=b/\g.ir=e.set (b-1-a) d:=by
   cases m:Nat.blt a i<;>rw[m]at c<;>simp only[aw]at c<;>subst c<;>exact⟨rfl,rfl⟩
  obtain⟨n,o⟩:=p;rw[H.get_eq,H.get_eq,n,o];have hl:b-1-a<e.length:=hl
  grind
 simp_all[Z]
@[simp]theorem iy (b:Nat) (f:jK):(fJ h b f).size=h.size:=by
 unfold fJ;cases a:h.put b f with
 |none=>rfl
 |some g=>
  obtain⟨c,e,i⟩:=h;have a:(iS (Nat.blt b c) (J (mw i (Nat.sub (Nat.sub c 1) b) f) λd=> @Bool.rec (λ_=>aa H) (some ⟨c,e,d⟩) (some ⟨c,b,d⟩) (Nat.blt b e)))=some g:=a;have⟨_,a⟩:=fj.1 a;have⟨d,_,a⟩:=eg.1 a;show g.size=c;cases j:Nat.blt b e<;>rw[j]at a<;>simp only[aw]at a<;>subst a<;>rfl
@[simp]def aht (b:Nat) (g:jK):Hp (fJ h b g)=Hp h:=by
 unfold fJ;cases a:h.put b g with
 |none=>rfl
 |some i=>
  obtain⟨d,f,j⟩:=h;have a:(iS (Nat.blt b d) (J (mw j (Nat.sub (Nat.sub d 1) b) g) λe=> @Bool.rec (λ_=>aa H) (some ⟨d,f,e⟩) (some ⟨d,b,e⟩) (Nat.blt b f)))=some i:=a;have⟨_,a⟩:=fj.1 a;have⟨e,c,a⟩:=eg.1 a;rw[mz]at c;split at c
  ·simp only[aw]at c;subst c;show Hp i=_;unfold Hp;cases k:Nat.blt b f<;>rw[k]at a<;>simp only[aw]at a<;>subst a<;>simp
  grind
@[simp]def Wd (a:Nat):gU h h a=true:=by
 unfold gU;cases h.get a<;>simp
@[simp]def We (c:jK) (a:Nat):gU h (h.cons c) a=true:=by
 unfold gU;cases b:h.get a with
 |none=>rfl
 |some d=>
  have:=H.gh b;simp only[fk,Z (show¬a=h.size by omega),b,Nat.beq_refl]
def Dv{b:Nat}{e:jK}(d:h.get b=some e)(f:jK){a:Nat}(c:a≠b):gU h (fJ h b f) a=true:=by
 unfold gU;rw[eG d,Z c];cases h.get a<;>simp
def Rt(h:H)(a:List T):aa T:=J (jX h 0 (kI a)) λb=>some (cn b)
@[simp]def NG (a:T) (b:a.jc=true):Rt h [a]=rZ h a:=by
 cases a<;>first|rfl|(simp[T.jc]at b)
def LC(a:List T):(J (jX h 0 (.tuple a)) λc=>some (cn c))=J (iH (rZ h) a) λb=>some (.tuple b):=by
 show(J (J (iH (lM h 0) a) λb=>some (T.tuple b)) λc=>some (cn c))=_;unfold rZ;rw[uN];cases iH (lM h 0) a with
 |none=>rfl
 |some b=>simp[wY]
@[simp]def aiJ (b c:T) (a:List T):Rt h (b::c::a)=J (iH (rZ h) (b::c::a)) λd=>some (.tuple d):=LC (b::c::a)
def Oq(h:H)(a:List T)(b:T):Prop:=Hp h/\Rt h a=some b
def Yp(a:List T)(b:T):Oq h a b=(Hp h/\Rt h a=some b):=rfl
attribute [simp] Yp
end
section
variable {P:aj}{cx:Ctx}{cf:jQ}{D:Nat}
def pt:List (Nat×iK)->ak->aa iK
 | [],_=>none
 |(b,d)::c,a=>if a=b then some d else pt c a
def ht:List (Nat×mN)->ak->aa mN
 | [],_=>none
 |(b,d)::c,a=>if a=b then some d else ht c a
@[simp]def ahY (a:ak):pt [] a=none:=id rfl
@[simp]def agu (b:Nat) (d:iK) (c:List (Nat×iK)) (a:ak):pt ((b,d)::c) a=if a=b then some d else pt c a:=id rfl
@[simp]def aiB (a:ak):ht [] a=none:=id rfl
@[simp]def agH (b:Nat) (d:mN) (c:List (Nat×mN)) (a:ak):ht ((b,d)::c) a=if a=b then some d else ht c a:=id rfl
def ik{f:Env->H->Out}(b:Nat)(l:b<9223372036854775808)(d:Nat->iM->H->Prop){e:jE}
 (m:∀c a h,c<b->binop .add (.int .i64 (c:Int)) (.int .i64 1)=some (.int .i64 ((c:Int)+1))->d c a h->W (f ⟨a,.nil⟩ h) (AR (λg h=>g.tmps= .nil/\d (c+1) g.vars h) e))
 (o:∀a h,d b a h->W (f ⟨a,.nil⟩ h) (AR (λg h=>False) e))
 {j:Nat} (k:b<j) {a:iM} {h:H} (i:d 0 a h):W (qt f j ⟨a,.nil⟩ h) e:=by
 refine VD b d (λc a h n i=>?_) k (ay b) i
 grind [aT,jp]
def Co{a:Func}(c:Aq ⟨a,D,false,none⟩=true):∃b,a.body=some b:=by
 unfold Aq at c
 grind
def ac1(J:P.follows .mixedOrders=true)(j7:jT P cx){l:ak}{b:Func}{r:DL}(g:G4 P cx l b D r)(z:pL P cx cf){a:List T}{n:T}(hl:nK a=true)(K:a.length<=b.ntmps)(i:Nat)
 (O:∀w,oN w 0 a->W (kq cx cf i D r (b.body.getD .skip) ⟨w,.nil⟩ hE) (B1 cx D b.results.toList λt h=>Oq h t n)):mM P cx l a n:=by
 have ab:∃c,cn c=n/\vV cx cf i b D false a hE=some (c,hE):=by
  have⟨u,N,_,I⟩:=oG D b.ntmps 0 a K;have⟨x,A,h,d,Q,t,hr,L,f⟩:=GT (O u I);have d:=tv _ g.dr _ _ _ d;have⟨y,e⟩:=Co g.ok;rw[e]at d;unfold Rt at f;have⟨c,f,s⟩:=eg.1 f;simp only[aw]at s;refine⟨c,s,?_⟩;unfold vV;rw[e];simp only;rw[N,fw];have d:ll cx cf i D y ⟨u,.nil⟩ ⟨0,0,[]⟩=some (x,A,h):=d;rw[d,fw,nC];have M:=qH hr;rcases Q with rfl|rfl<;>(simp only;rw[M,fw];exact Lh L f)
 obtain⟨c,rfl,e⟩:=ab;have E:mM P cx l a c:=BH (mD _ hl) λj p q k o m=>
  rM (F:=⟨b,D,false,none⟩) J j7 g.at_ g.ok cf z i a hE c hE e j p q k o m
 intro j p q k h o m;refine(E j p q k h o m).mono λv al ⟨⟨ae,R,S,U,V⟩,Z⟩=>?_;exact⟨⟨ae,R.cn,S,U,V⟩,Z⟩
