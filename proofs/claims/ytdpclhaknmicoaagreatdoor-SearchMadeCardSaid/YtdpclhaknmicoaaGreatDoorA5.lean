/- TiQuick -/
import Derived.Test.YtdpclhaknmicoaaGreatDoorA4
import Derived.KernelRfl
set_option linter.all false
set_option maxRecDepth 100000
set_option maxHeartbeats 0
namespace Go.TI
theorem em{p:Prop}(h:p:=by kernel_rfl):p:=h
end Go.TI
namespace Go.TI
noncomputable section
section
def aco(a:Fun):Code:=Option.casesOn a.fn.body .skip λb=>b
section
variable {V nt:Nat}{K:List Nat}{pre:List T}
end
section
variable {P:List T->Prop}
end
end
mutual
def BD:T->T->Bool
 | .undef,a=>(match a with| .undef=>true|_=>false)
 | .bool y,a=>(match a with| .bool n=>Bool.casesOn y (!n) n|_=>false)
 | .int o q,a=>(match a with| .int p r=>decide (o=p)&&decide (q=r)|_=>false)
 | .str s,a=>(match a with| .str t=>decide (s=t)|_=>false)
 | .mn,a=>(match a with| .mn=>true|_=>false)
 | .mF,a=>(match a with| .mF=>true|_=>false)
 | .mN,a=>(match a with| .mN=>true|_=>false)
 | .pV,a=>(match a with| .pV=>true|_=>false)
 | .jf,a=>(match a with| .jf=>true|_=>false)
 | .ptr a h j l,b=>(match b with| .ptr d i k m=>Nat.beq a d&&Nat.beq h i&&Nat.beq j k&&Nat.beq l m|_=>false)
 | .arr a h j l g,b=>(match b with| .arr d i k m c=>Nat.beq a d&&Nat.beq h i&&Nat.beq j k&&Nat.beq l m&&Bool.casesOn g (!c) c|_=>false)
 | .map a,b=>(match b with| .map d=>Nat.beq a d|_=>false)
 | .fg e g,b=>(match b with| .fg f c=>EN e f&&Bool.casesOn g (!c) c|_=>false)
 | .agg e,b=>(match b with| .agg f=>EN e f|_=>false)
 | .func g e,b=>(match b with| .func c f=>Nat.beq g c&&EN e f|_=>false)
 | .iface u w,b=>(match b with| .iface v x=>Nat.beq u v&&BD w x|_=>false)
 |_,_=>false
def EN:List T->List T->Bool
 | [],a=>(match a with| []=>true|_=>false)
 |x::b,a=>(match a with|y::c=>BD x y&&EN b c|_=>false)
end
def OD{b a:Bool}(c:(@Bool.rec (λ_=>Bool) (!a) a b)):b=a:=by cases b<;>cases a<;>simp_all
mutual
def Oe:(h b:T)->BD h b->h=b
 | .undef,b,a=>by cases b<;>first|rfl|simp[BD]at a
 | .bool z,b,a=>by
  cases b<;>first|(simp[BD]at a;done)|skip
  rename_i n;have a:(@Bool.rec (λ_=>Bool) (!n) n z):=by grind [BD]
  rw[OD a]
 | .int A B,b,a=>by cases b<;>simp[BD]at a;grind
 | .str C,b,a=>by cases b<;>simp[BD]at a;grind
 | .mn,b,a=>by cases b<;>first|rfl|simp[BD]at a
 | .mF,b,a=>by cases b<;>first|rfl|simp[BD]at a
 | .mN,b,a=>by cases b<;>first|rfl|simp[BD]at a
 | .pV,b,a=>by cases b<;>first|rfl|simp[BD]at a
 | .jf,b,a=>by cases b<;>first|rfl|simp[BD]at a
 | .ptr b i j k,c,a=>by cases c<;>simp[BD]at a;grind
 | .arr b i j k g,c,a=>by
  cases c<;>first|(simp[BD]at a;done)|skip
  rename_i o p v w f;have a:(Nat.beq b o&&Nat.beq i p&&Nat.beq j v&&Nat.beq k w&& @Bool.rec (λ_=>Bool) (!f) f g):=by grind [BD]
  simp only[aC]at a;obtain⟨⟨⟨⟨q,r⟩,s⟩,t⟩,u⟩:=a;rw[aK q,aK r,aK s,aK t,OD u]
 | .map b,c,a=>by cases c<;>simp[BD]at a;grind
 | .fg d g,c,a=>by
  cases c<;>first|(simp[BD]at a;done)|skip
  rename_i e f;have a:(EN d e&& @Bool.rec (λ_=>Bool) (!f) f g):=by grind [BD]
  simp only[aC]at a;rw[E7 d e a.1,OD a.2]
 | .agg d,c,a=>by
  cases c<;>first|(simp[BD]at a;done)|skip
  rename_i e;have a:EN d e:=by grind [BD]
  rw[E7 d e a]
 | .func g d,c,a=>by
  cases c<;>first|(simp[BD]at a;done)|skip
  rename_i f e;have a:(Nat.beq g f&&EN d e):=by grind [BD]
  simp only[aC]at a;rw[aK a.1,E7 d e a.2]
 | .iface x l,c,a=>by
  cases c<;>first|(simp[BD]at a;done)|skip
  rename_i y m;have a:(Nat.beq x y&&BD l m):=by grind [BD]
  simp only[aC]at a;rw[aK a.1,Oe l m a.2]
 | .kH _,b,a=>by grind [BD]
 | .iter _,b,a=>by grind [BD]
 | .tuple _,b,a=>by grind [BD]
def E7:(c a:List T)->EN c a->c=a
 | [],a,b=>by cases a<;>first|rfl|grind [EN]
 |x::d,a,b=>by
  cases a<;>first|(simp[EN]at b;done)|skip
  rename_i e f;have b:(BD x e&&EN d f):=by grind [EN]
  simp[aC]at b;rw[Oe x e b.1,E7 d f b.2]
end
structure Ent where
 f:Nat
 args:List T
 h:H
 r:T
 h':H
def tI(d:ai)(cx:Ctx)(a:Ent):Prop:=
 ∀e b c (g:af am),St cx e b.heap c a.h->ja b.heap c a.args g.toList->C6 d (uI cx e b c a.h a.r a.h') ((callFunc a.f g).run d b)
mutual
def pJ:T->Bool
 | .undef| .bool _| .int _ _| .str _| .mn| .jf| .mF| .mN| .pV=>true
 | .fg a _=>om a
 | .agg a=>om a
 | .tuple a=>om a
 | .kH a=>om a
 | .func _ a=>om a
 | .iface _ b=>pJ b
 |_=>false
def om:List T->Bool
 | []=>true
 |x::a=>pJ x&&om a
end
mutual
def GC:(c:T)->pJ c->tF 0 c
 | .undef,_=> .undef
 | .bool _,_=> .bool _
 | .int _ _,_=> .int _ _
 | .str _,_=> .str _
 | .mn,_=> .mn
 | .jf,_=> .jf
 | .mF,_=> .mF
 | .mN,_=> .mN
 | .pV,_=> .pV
 | .fg a h,b=> .fg _ _ λc f=>by
  have⟨d,e,g⟩:=List.mem_flatMap.1 f;exact(nl a (by grind [pJ]) d e).cells c g
 | .agg a,b=> .agg _ (nl a (by grind [pJ]))
 | .tuple a,b=> .tuple _ (nl a (by grind [pJ]))
 | .kH a,b=> .kH _ (nl a (by grind [pJ]))
 | .func _ a,b=> .func _ _ (nl a (by grind [pJ]))
 | .iface _ c,b=> .iface _ _ (GC c (by grind [pJ]))
 | .ptr _ _ _ _,b=>by grind [pJ]
 | .arr _ _ _ _ _,b=>by grind [pJ]
 | .iter _,b=>by grind [pJ]
 | .map _,b=>by grind [pJ]
def nl:(d:List T)->om d->∀c∈d,tF 0 c
 | [],_=>λc b=>by grind
 |x::f,a=>λc b=>by
  unfold om at a;rw[aC]at a;rcases List.mem_cons.1 b with e|b
  rw[e];exact(GC x a.1);exact nl f a.2 c b
end
def iz.move{y:af Obj}{z A:Mu}{b:T}{l:am}(a:iz y z b l)(x:∀n,qt A n->qt z n)(hl:tF 0 b):iz y A b l:=by
 induction a with
 |undef=>exact .undef
 |bool h=>exact .bool h
 |int c L=>exact .int c L
 |str N a=>exact .str N a
 |mn=>exact .mn
 |ptr h D n S o g s H R=>cases hl with|ptr _ _ _ _ a=>omega
 |kH r p off arr k fz u t f j hr e=>
  cases hl with|kH _ a=>exact .kH r p off arr k fz (λc=>u (x _ c)) t f j λc b d=>e c b d (a b (aB d))
 |qy m g=>exact .qy m g
 |fg C E m p off q O arr k fz u t w I K f j hr e=>
  cases hl with|fg _ _ a=>exact .fg C E m p off q O arr k fz (λc=>u (x _ c)) t w I K f j λc b d=>e c b d (a b (aB d))
 |jf g q=>exact .jf g q
 |arr h D V U m o g Q s H w v=>cases hl with|arr _ _ _ _ _ a=>omega
 |func F B i f hr e=>cases hl with|func _ _ a=>exact .func F B i f λc b d=>e c b d (a b (aB d))
 |mF=>exact .mF
 |mN=>exact .mN
 |iface k b l a e=>cases hl with|iface _ _ a=>exact .iface k b l (e a)
 |iter h o g s v=>cases hl with|iter _ a=>omega
 |map h o n s v=>cases hl with|map _ a=>omega
 |pV=>exact .pV
 |agg r i f j hr e=>cases hl with|agg _ a=>exact .agg r i f j λc b d=>e c b d (a b (aB d))
 |tuple P i f hr e=>cases hl with|tuple _ a=>exact .tuple P i f λc b d=>e c b d (a b (aB d))
def ni(d:ai)(cx:Ctx)(h:Nat)(g:List T)(i:T):Prop:=
 ∀e a c (f:af am) (b:H),St cx e a.heap c b->ja a.heap c g f.toList->C6 d (uI cx e a c b i b) ((callFunc h f).run d a)
def FZ{s:ai}{cx:Ctx}{u:Nat}{k:List T}{z:T}{v:H}(hl:∀i∈k,tF 0 i)(N:v.size=0)(D:tI s cx ⟨u,k,⟨0,0,[]⟩,z,v⟩):ni s cx u k z:=by
 intro V h f t W e w;have q:∀a,qt ⟨λ_=>none,qt f⟩ a->qt f a:=by
  rintro a (⟨d,b,c,_⟩|hr)
  grind
  omega
 have E:∀a,qt f a->a<h.heap.size:=by
  rintro a (⟨d,b,c,rfl⟩|hr);exact e.lt c;exact e.uM a hr
 have P:St cx h.heap.size h.heap ⟨λ_=>none,qt f⟩ ⟨0,0,[]⟩:=by
  refine⟨rfl,ay _,λd b c=>by grind,λd U b S c=>by simp,λd b c=>by grind,λd b c=>by grind,λa hr=>E a hr,λn m p=>?_⟩;have:=e.CH n m p;refine this.move q ?_;have⟨_,_,_,_,_,_,_,_,_,K,_⟩:=this.oq;exact .kH _ λi l=>(K i l).2.low 0
 have B:ja h.heap ⟨λ_=>none,qt f⟩ k t.toList:=⟨w.1,λr i l=>(w.2 r i l).move q (hl i (aB l))⟩;refine(D h.heap.size h ⟨λ_=>none,qt f⟩ t P B).mono λi A ⟨⟨R,y,O,g,X⟩,Z⟩=>?_;have I:∀a,qt f a->qt R a:=λa j=> .inr (g.ext.qJ▸j);have o:Ext h.heap f A.heap f:=by
  refine⟨g.ext.size,λa j x=>⟨(g.ext.Bo a j (λr=>x (q a r))).1,x⟩,λd b c=>⟨b,c,.inl rfl⟩,rfl,λa j hr=>?_⟩;exact g.ext.kept a j (.inr hr)
 have C:∀d b,f d=G b->A.heap[b.jV]? =h.heap[b.jV]? :=λd b c=>g.ext.kept b.jV (e.lt c) (.inl ⟨d,b,c,rfl⟩);refine⟨⟨f,y.move I (y.low λd b c=>N▸O.fV c),⟨e.wf,aV e.fit g.ext.size,λd b c=>?_,e.inj,e.low,e.apart,λa hr=>bS (e.uM a hr) g.ext.size,λn m p=>(e.CH n m p).ext o⟩,⟨o,g.os,g.tape,g.output⟩,BT.refl _ _⟩,ng.refl e.wf⟩;have⟨Q,L,F⟩:=e.box d b c;exact⟨Q,L,F.ext o (C d b c)⟩
def EC:List T->List T->Bool
 | [],a=>(match a with| []=>true|_=>false)
 |x::b,a=>(match a with|y::c=>EC b c&&BD x y|_=>false)
def E0{b:ai}{cx:Ctx}{c:Nat}{a:List T}{d:T}(hl:∀f∈a,tF 0 f)(e:tI b cx ⟨c,a,⟨0,0,[]⟩,d,⟨0,0,[]⟩⟩):ni b cx c a d:=FZ hl rfl e
def UY:∀(b a:List T),EC b a->b=a:=by
 intro b;induction b with
 |nil=>intro a c;cases a<;>first|rfl|grind [EC]
 |cons f g d=>
  intro a c;rcases a with _|⟨h,e⟩
  grind [EC]
  simp[EC,aC]at c;rw[Oe _ _ c.2,d e c.1]
abbrev yy:=List (Nat×List (List T×T))
def IZ(e:List (List T×T))(b:List T):aa T:=
 @List.rec (List T×T) (λ_=>aa T) none (λc _ d=>Prod.casesOn c λa f=> @Bool.rec (λ_=>aa T) d (some f) (EC b a)) e
def EA(h:yy)(d:Nat)(b:List T):aa T:=
 @List.rec (Nat×List (List T×T)) (λ_=>aa T) none (λc _ a=>Prod.casesOn c λe f=> @Bool.rec (λ_=>aa T) a (Option.casesOn (IZ f b) a λg=>some g) (Nat.beq d e)) h
inductive AG (P:ai) (cx:Ctx):yy->Prop where
 |nil:AG P cx []
 |new {f:Nat} {t:yy}:AG P cx t->AG P cx ((f,[])::t)
 |ent {f:Nat} {a:List T} {r:T} {l:List (List T×T)} {t:yy}:ni P cx f a r->AG P cx ((f,l)::t)->AG P cx ((f,(a,r)::l)::t)
def AG.mem{a:ai}{cx:Ctx}{f:yy}(g:AG a cx f):∀c d,(c,d)∈f->∀b e,(b,e)∈d->ni a cx c b e:=by
 induction g with
 |nil=>simp
 |new _ h=>
  grind
 |ent i _ h=>
  grind
theorem RP{c:List (List T×T)}{b:List T}{d:T}(a:IZ c b=G d):(b,d)∈c:=by
 induction c with
 |nil=>grind [IZ]
 |cons g c h=>
  obtain⟨f,r1⟩:=g;have a: @Bool.rec (λ_=>aa T) (IZ c b) (some r1) (EC b f)=G d:=a;cases e:EC b f;rw[e]at a;grind;rw[e]at a;have a:some r1=G d:=a;cases a;rw[UY _ _ e];simp
def RO{e:yy}{c:Nat}{b:List T}{d:T}(a:EA e c b=G d):∃f,(c,f)∈e/\(b,d)∈f:=by
 induction e with
 |nil=>grind [EA]
 |cons k e m=>
  obtain⟨g,f⟩:=k;have a: @Bool.rec (λ_=>aa T) (EA e c b) (@Option.rec T (λ_=>aa T) (EA e c b) (λd=>some d) (IZ f b)) (Nat.beq c g)=G d:=a;have o:EA e c b=G d->∃j,(c,j)∈(g,f)::e/\(b,d)∈j:=λn=>by
   grind
  cases h:Nat.beq c g;rw[h]at a;grind;rw[h]at a;rcases i:IZ f b with _|l
  rw[i]at a;grind;rw[i]at a;have a:some l=G d:=a;cases a;rw[aK h]
  grind [RP,dD]
def Uz(h:yy)(ft:aj->aa sg):aj->aa sg:=λb=>
 Option.casesOn (ft b) none λe=>some λd f a c=>Option.casesOn (EA h b a) (e d f a c) λg=>some (g,c)
def Uy{i:ai}{cx:Ctx}{h:yy}{ft:aj->aa sg}(y:AG i cx h)(z:∀a c,ft a=G c->nR i cx a c):∀a c,Uz h ft a=G c->nR i cx a c:=by
 intro a c f;unfold Uz at f;rcases k:ft a with _|o
 rw[k]at f;grind;rw[k]at f;cases f;intro n v q d e g j b l t u m s p;have b: @Option.rec T (λ_=>aa (T×H)) (o n q d e) (λg=>some (g,e)) (EA h a d)=G (g,j):=b;rcases hE:EA h a d with _|r
 rw[hE]at b;exact z a o k n v q d e g j b l t u m s p;rw[hE]at b;have b:some (r,e)=G (g,j):=b;simp[aw,aH]at b;obtain⟨rfl,rfl⟩:=b;have⟨A,w,x⟩:=RO hE;exact y.mem a A w d r x l t u m e s p
def zR(b:yy)(ft:aj->aa sg)(a:Nat):jS:=Mr (Uz b ft) a
def Mo{a:ai}{cx:Ctx}{e:yy}{ft:aj->aa sg}(f:AG a cx e)(g:∀b c,ft b=G c->nR a cx b c)(d:Nat):qx a cx (zR e ft d):=Mp (Uy f g) d
def AG.next{c:ai}{cx:Ctx}{f:yy}{ft:aj->aa sg}(n:∀a g,ft a=G g->nR c cx a g){i:Nat}{a:Nat}{d:List (List T×T)}(h:AG c cx ((a,d)::f)){b:List T}{e:T}
 (hl:om b) (m:zR ((a,d)::f) ft i a b ⟨0,0,[]⟩=G (e,⟨0,0,[]⟩)):AG c cx ((a,(b,e)::d)::f):=
 .ent (E0 (nl b hl) λj p q k o l=>Mo h n i a b ⟨0,0,[]⟩ e ⟨0,0,[]⟩ m j p q k o l) h
section
def put(a:iM)(b:Nat)(c:T):iM:=(pQ a b c).getD a
def sL(d:iM)(a:Nat)(c:T):pQ d a c=G (put d a c):=by
 have:∃b,pQ d a c=G b:=by
  induction d with
  |nil=>exact⟨_,rfl⟩
  |cons e i b g=>
   obtain⟨h,ht⟩:=g;cases f:Nat.beq e a;simp_all[pQ,Z];exact⟨.cons e c b,by show @Bool.rec (λ_=>aa iM) _ _ (Nat.beq e a)=_;rw[f]⟩
 obtain⟨b,hr⟩:=this;rw[hr];unfold put;rw[hr];rfl
def oP(b:Nat)(d:T)(c:iM)(a:Nat):mB (.cons b d c) a=if b=a then some d else mB c a:=by show @Bool.rec (λ_=>aa T) (mB c a) (some d) (Nat.beq b a)=_;cases e:Nat.beq b a;rw[aq (du e)];rw[au (aK e)]
def IQ(a:Nat):mB .nil a=none:=rfl
def UC(f:iM)(b:Nat)(c:T)(i:Nat):mB (put f b c) i=if b=i then some c else mB f i:=by
 have a:=sL f b c;generalize put f b c=h at a;induction f generalizing h with
 |nil=>
  have a:some (iM.cons b c .nil)=G h:=a;simp[aw]at a;subst a;rw[oP,IQ]
 |cons d k e j=>
  have a: @Bool.rec (λ_=>aa iM) (Z (pQ e b c) λe=>some (.cons d k e)) (some (.cons d c e)) (Nat.beq d b)=G h:=a;cases g:Nat.beq d b;rw[g]at a;have a:=a;rw[sL]at a;simp[fw,aw]at a;subst a;have:=du g;rw[oP,oP,j _ (sL _ _ _)]
  grind
  rw[g]at a;have a:some (iM.cons d c e)=G h:=a;simp[aw]at a;subst a;have:=aK g;subst this;simp[oP];split<;>rfl
structure jH where
 n:Env->H->Prop
 x:Nat->Env->H->Prop
 r:Env->H->Prop
def W(f:Out)(c:jH):Prop:=∃d a b,f=G (d,a,b)/\Ex.casesOn d (c.n a b) (λe=>c.x e a b) (c.r a b)
@[simp]def HA (a:Env) (b:H) (d:jH):W (some (.normal,a,b)) d=d.n a b:=by apply propext;constructor;rintro⟨h,f,g,e,c⟩;simp[aw,aH]at e;obtain⟨rfl,rfl,rfl⟩:=e;exact c;exact λc=>⟨_,a,b,rfl,c⟩
@[simp]def Kv (f:Nat) (a:Env) (b:H) (d:jH):W (some (.exit f,a,b)) d=d.x f a b:=by apply propext;constructor;rintro⟨i,g,h,e,c⟩;simp[aw,aH]at e;obtain⟨rfl,rfl,rfl⟩:=e;exact c;exact λc=>⟨_,a,b,rfl,c⟩
@[simp]def agz (a:Env) (b:H) (d:jH):W (some (.ret,a,b)) d=d.r a b:=by apply propext;constructor;rintro⟨h,f,g,e,c⟩;simp[aw,aH]at e;obtain⟨rfl,rfl,rfl⟩:=e;exact c;exact λc=>⟨_,a,b,rfl,c⟩
def VT(a:jH):¬W none a:=by rintro⟨e,b,c,d,_⟩;grind
def JF(b:Env->H->Out)(a:jH):jH:=⟨λc d=>W (b c d) a,a.x,a.r⟩
def vK(id:Nat)(a:jH):jH:=⟨a.n,λd b c=>if d=id then a.n b c else a.x d b c,a.r⟩
def By(b:Env->H->Prop)(a:jH):jH:=⟨b,a.x,a.r⟩
theorem ai7 (b:Env->H->Out) (a:jH) (c:Env) (d:H):(JF b a).n c d=W (b c d) a:=rfl
theorem abn (e:Env->H->Out) (a:jH) (d:Nat) (b:Env) (c:H):(JF e a).x d b c=a.x d b c:=rfl
theorem ai6 (d:Env->H->Out) (a:jH) (b:Env) (c:H):(JF d a).r b c=a.r b c:=rfl
theorem afA (id:Nat) (a:jH) (b:Env) (c:H):(vK id a).n b c=a.n b c:=rfl
theorem CE (id:Nat) (a:jH) (d:Nat) (b:Env) (c:H):(vK id a).x d b c=if d=id then a.n b c else a.x d b c:=rfl
theorem afz (id:Nat) (a:jH) (b:Env) (c:H):(vK id a).r b c=a.r b c:=rfl
theorem aja (a:Env->H->Prop) (d:jH) (b:Env) (c:H):(By a d).n b c=a b c:=rfl
theorem ai8 (e:Env->H->Prop) (a:jH) (d:Nat) (b:Env) (c:H):(By e a).x d b c=a.x d b c:=rfl
theorem ai9 (d:Env->H->Prop) (a:jH) (b:Env) (c:H):(By d a).r b c=a.r b c:=rfl
attribute [simp] ai7 abn ai6 afA CE afz aja ai8 ai9
@[simp]def agy (c e:Env->H->Out) (a:Env) (b:H) (d:jH):W (HN c e a b) d=W (c a b) (JF e d):=by
 apply propext;unfold HN;rcases k:c a b with _|h
 constructor<;>(rintro⟨f,a,b,g,_⟩;simp[Z]at g);obtain⟨f,i,j⟩:=h;simp[fw,nV];cases f<;>simp
@[simp]def YA (id:Nat) (g:Env->H->Out) (b:Env) (d:H) (a:jH):W (D5 id g b d) a=W (g b d) (vK id a):=by
 apply propext;unfold D5;rcases l:g b d with _|k
 constructor<;>(rintro⟨i,b,d,j,_⟩;simp[Z]at j);obtain⟨i,c,e⟩:=k;simp[fw,nV];cases i with
 |normal=>simp
 |ret=>simp
 |exit f=>
  show W (@Bool.rec (λ_=>Out) (some (.exit f,c,e)) (some (.normal,c,e)) (Nat.beq f id)) a↔_;cases h:Nat.beq f id;show W (some (.exit f,c,e)) a↔_;rw[Kv,Kv,CE,aq (du h)];show W (some (.normal,c,e)) a↔_;rw[HA,Kv,CE,au (aK h)]
def U8(d:aa T)(a b:Prop):Prop:=match d with
 |some (.bool c)=>if c=true then a else b
 |_=>False
def HB{σ:Type}{g:Env->H->Out}(I:σ->Env->H->Prop)(m:σ->Nat){h:jH}
 (n:∀c a b,I c a b->W (g a b) (By (λe f=>∃i,m i<m c/\I i e f) h)):
 ∀d c a b,m c<d->I c a b->W (su g d a b) h:=by
 intro d;induction d with
 |zero=>omega
 |succ d w=>
  intro c a b u l;have⟨j,r,s,o,p⟩:=n c a b l;show W (Z (g a b) λq=>three q λj e f=> @Ex.rec (λ_=>Out) (su g d e f) (λk=>some (.exit k,e,f)) (some (.ret,e,f)) j) h;rw[o];simp[fw,nV];cases j with
  |normal=>
   obtain⟨i,v,t⟩:=p
   grind
  |exit k=>simp_all
  |ret=>simp_all
section
variable {P:ai}{cx:Ctx}
end
end
theorem aht (c:jS) (d a:H) (b:T):fin c d (be b a)=G (b,a):=rfl
theorem af6 (b:jS) (d:H) (c:aj) (a:List T):fin b d (some (.call c a))=b c a d:=rfl
theorem BZ (a:H) (b:T):val a (some b)=be b a:=rfl
theorem KG (a:H) (b:T):kJ (some (b,a))=be b a:=rfl
attribute [simp] aht af6 BZ KG
def PP(a b:List Nat):XR a b=decide (a=b):=by rw[BF,bD];simp
def XS(a b:Int):Wn a b=decide (a=b):=by rw[BH];rfl
def Av(a b:Int):PB a b=decide (a<b):=Bw a b
@[simp]theorem vL (a:ak):HY a a=true:=by cases a<;>rfl
@[simp]theorem BI (d a:ak) (b c:Int):tq (.int d) (.int a b) (.int a c)=G (decide (b=c)):=by show iX (HY a a) (some (Wn b c))=_;rw[vL,XS];rfl
@[simp]def abL (a b:List Nat):tq .str (.str a) (.str b)=G (decide (a=b)):=by show some (XR a b)=_;rw[PP]
@[simp]theorem ED (a b:Bool):tq .bool (.bool a) (.bool b)=G (a==b):=by cases a<;>cases b<;>rfl
@[simp]def adj (a:ak) (b c:Int):binop .lss (.int a b) (.int a c)=G (.bool (decide (b<c))):=by show iX (HY a a) (AR (PB b c))=_;rw[vL,Av,iP,vz]
@[simp]def adk (a:ak) (b c:Int):binop .leq (.int a b) (.int a c)=G (.bool (decide (b<=c))):=by show iX (HY a a) (AR (!PB c b))=_;rw[vL,Av,iP,vz];congr 2;rw[bD];simp
@[simp]def adl (a:ak) (b c:Int):binop .gtr (.int a b) (.int a c)=G (.bool (decide (c<b))):=by show iX (HY a a) (AR (PB c b))=_;rw[vL,Av,iP,vz]
@[simp]def adm (a:ak) (b c:Int):binop .geq (.int a b) (.int a c)=G (.bool (decide (c<=b))):=by show iX (HY a a) (AR (!PB b c))=_;rw[vL,Av,iP,vz];congr 2;rw[bD];simp
def lA{a:Int}(c: -9223372036854775808<=a)(d:a<9223372036854775808):OX .i64 a=a:=by
 cases a with
 |ofNat b=>
  show @Bool.rec (λ_=>Int) _ _ (Nat.ble b 9223372036854775807)=_;rw[cQ c5]
 |negSucc b=>
  show @Bool.rec (λ_=>Int) _ _ (Nat.ble b 9223372036854775807)=_;rw[cQ J]
def KW{a:Int}(b: -9223372036854775808<=a)(c:a<9223372036854775808):rN .i64 a=G (.int .i64 a):=by unfold rN;rw[lA b c,rO]
theorem jr{a b:Int}(c: -9223372036854775808<=a+b)(d:a+b<9223372036854775808):binop .add (.int .i64 a) (.int .i64 b)=G (.int .i64 (a+b)):=KW c d
def my{a b:Int}(c: -9223372036854775808<=a-b)(d:a-b<9223372036854775808):binop .sub (.int .i64 a) (.int .i64 b)=G (.int .i64 (a-b)):=KW c d
def OH{a b:Nat}(c:a<b)(d:b<9223372036854775808):binop .add (.int .i64 (a:Int)) (.int .i64 1)=G (.int .i64 ((a+1:Nat):Int)):=by rw[jr J J];rfl
@[simp]theorem adu (a:Bool):unop .not (.bool a)=G (.bool !a):=by cases a<;>rfl
def UD{b:Type}(a:List b):oo a=a.length:=kQ a
@[simp]theorem acX (b:H) (a:List T) (c:Bool):ai4 b (.fg a c)=be (.int .i64 (a.length:Nat)) b:=by show val b (Z (jd (oo a)) λd=>some (.int .i64 (.ofNat d)))=_;rw[UD,jx];rfl
def ada (a:List Nat):(T.str a).cells=[.str a]:=a9
def adc (a:ak) (b:Int):(T.int a b).cells=[.int a b]:=a9
def ab8 (a:Bool):(T.bool a).cells=[.bool a]:=a9
def adf (a:List T):(T.agg a).cells=a:=a9
attribute [simp] ada adc ab8 adf
@[simp]def C2 (a b:Nat):Nat.beq a b=decide (a=b):=by rw[bD];simp
@[simp]def Yu (a b:Nat):Nat.ble a b=decide (a<=b):=by rw[bD];simp
@[simp]def Yt (a b:Nat):Nat.blt a b=decide (a<b):=by rw[bD,aQ];simp
def afR (a:List Nat):(T.str a).je=true:=a9
def afT (a:ak) (b:Int):(T.int a b).je=true:=a9
def ac4 (a:Bool):(T.bool a).je=true:=a9
def ac3 (a:List T) (b:Bool):(T.fg a b).je=true:=a9
def afV (a:List T):(T.agg a).je=true:=a9
theorem af7 (off:Nat) (b:H) (a:List T):faV off b (.kH a)=Z (lJ off a) λc=>some (nO.val (.kH c) b):=rfl
theorem acU (c:H) (b:Ty) (a:List T):c.load b (.kH a)=lI b a:=rfl
theorem ahz {b:Type} (a:List b):lJ 0 a=G a:=rfl
theorem ahy {c:Type} (b:Nat) (d:c) (a:List c):lJ (b+1) (d::a)=lJ b a:=rfl
theorem agX {b:Type} (a:List b):takeN 0 a=G []:=rfl
theorem agW {d:Type} (b:Nat) (c:d) (a:List d):takeN (b+1) (c::a)=Z (takeN b a) λe=>some (c::e):=rfl
theorem ac7 (a:H) (c:List T) (b:Nat):exV a (.tuple c) b=val a (qN c b):=rfl
attribute [simp] afR afT ac4 ac3 afV af7 acU ahz ahy agX agW ac7
end
noncomputable section
open Classical in
@[simp]theorem IP:om []=true:=by unfold om;rfl
@[simp]def GA (a:T) (b:List T):om (a::b)=(pJ a&&om b):=by rw[om]
@[simp]theorem LI (a:ak) (b:Int):pJ (.int a b)=true:=by unfold pJ;rfl
@[simp]theorem acT (a:Bool):pJ (.bool a)=true:=by unfold pJ;rfl
@[simp]theorem LH (a:List Nat):pJ (.str a)=true:=by unfold pJ;rfl
@[simp]theorem acR:pJ .jf=true:=by unfold pJ;rfl
@[simp]def acS (a:List T) (b:Bool):pJ (.fg a b)=om a:=by rw[pJ]
@[simp]def LJ (a:List T):pJ (.agg a)=om a:=by rw[pJ]
def RA{d:Type}(c:d->T)(e:∀b,pJ (c b)):∀a:List d,om (a.map c)=true:=by
 intro a;induction a with
 |nil=>simp
 |cons b a f=>simp[e b,f]
def SL(b:T)(a:List T):Prop:=(b= .jf/\a=[])\/∃c,b= .fg a c
def sl(a:List T):T:=match a with| []=> .jf|x::b=> .fg (x::b) false
def YB(a:List T)(b:Bool):SL (.fg a b) a:= .inr ⟨b,rfl⟩
def SL.kd{b:T}{a:List T}(d:SL b a)(c:H):c.kd b=G a:=by rcases d with⟨rfl,rfl⟩|⟨e,rfl⟩<;>rfl
theorem SL.cells{a:T}{b:List T}(c:SL a b):a.cells=[a]:=by rcases c with⟨rfl,rfl⟩|⟨d,rfl⟩<;>rfl
theorem SL.je{a:T}{b:List T}(c:SL a b):a.je=true:=by rcases c with⟨rfl,rfl⟩|⟨d,rfl⟩<;>rfl
end
noncomputable section
def Hp(a:H):Prop:=a.iA.length=a.size
def YK{a:H}(c:Hp a)(b:jO):Hp (a.cons b):=by grind [Hp,H.cons]
@[simp]theorem size_cons (a:H) (b:jO):(a.cons b).size=a.size+1:=rfl
def fQ(a:H)(b:Nat)(c:jO):H:=(a.put b c).getD a
def K2{b:H}(k:Hp b){a:Nat}(i:a<b.size)(e:jO):b.put a e=G (fQ b a e):=by
 have:∃d,b.put a e=G d:=by
  obtain⟨c,f,h⟩:=b;unfold Hp at k;show∃d,(iX (Nat.blt a c) (Z (nH h (Nat.sub (Nat.sub c 1) a) e) λg=> @Bool.rec (λ_=>aa H) (some ⟨c,f,g⟩) (some ⟨c,a,g⟩) (Nat.blt a f)))=G d;rw[show Nat.blt a c=true from aQ▸i,iP,mv,au c5,fw];cases Nat.blt a f<;>exact⟨_,rfl⟩
 obtain⟨d,j⟩:=this;unfold fQ;rw[j];rfl
def Nm{b:H}(m:Hp b){a:Nat}(h:a<b.size)(c:jO):Hp (fQ b a c)/\(fQ b a c).size=b.size/\∀f,(fQ b a c).get f=if f=a then some c else b.get f:=by
 have e:=K2 m h c;generalize fQ b a c=g at*
 obtain⟨d,j,k⟩:=b;unfold Hp at*
 dsimp at m h
 have e:(iX (Nat.blt a d) (Z (nH k (Nat.sub (Nat.sub d 1) a) c) λl=> @Bool.rec (λ_=>aa H) (some ⟨d,j,l⟩) (some ⟨d,a,l⟩) (Nat.blt a j)))=G g:=e;rw[show Nat.blt a d=true from aQ▸h,iP,mv,au c5,fw]at e;have o:g.size=d/\g.iA=k.set (d-1-a) c:=by
  cases hl:Nat.blt a j<;>rw[hl]at e<;>simp[aw]at e<;>subst e<;>exact⟨rfl,rfl⟩
 obtain⟨i,n⟩:=o;refine⟨by rw[i,n];grind,i,λf=>?_⟩;rw[H.get_eq,H.get_eq,i,n]
 grind
def get_put{b:H}(f:Hp b){c:Nat}(e:c<b.size)(d:jO)(a:Nat):(fQ b c d).get a=if a=c then some d else b.get a:=(Nm f e d).2.2 a
@[simp]theorem ahv (off:Nat) (c:H) (a b d e:Nat):faV off c (.ptr a b d e)=be (.ptr a b d (e+off)) c:=by show(Z (jd (Nat.add e off)) λf=>some (nO.val (.ptr a b d f) c))=_;rw[jx];rfl
@[simp]theorem Uv (a:H) (b:Nat->T) (c:jO):kJ (a.new b c)=be (b a.size) (a.cons c):=by rw[H.ny];rfl
theorem NW{a:H}(b:Hp a)(f c:T):xD 0 0 f c a=G (c,⟨0,0,[]⟩):=by
 obtain⟨d,e,g⟩:=a;unfold Hp at b
 dsimp at b
 unfold xD;simp only;rw[show Nat.sub d 0=d from rfl,ox,au J,fw,show Nat.ble 0 e=true by simp]
 grind
def LM{a:H}(e:Hp a){b c:T}(d:kI a 0 b=G c):GE false 0 0 b a=G (c,⟨0,0,[]⟩):=by
 show @Option.rec T (λ_=>aa (T×H)) (qm 0 b a) (λc=>xD 0 0 b c a) (kI a 0 b)=_;rw[d]
 grind [NW]
inductive YL:T->Prop where
 |bool (b:Bool):YL (.bool b)
 |int (k:ak) (n:Int):YL (.int k n)
 |str (s:List Nat):YL (.str s)
 |fg (es:List T) (f:Bool):YL (.fg es f)
 |jf:YL .jf
theorem YL.freeze{a:T}(d:YL a)(c:H)(e b:Nat):freeze c e (b+1) a=G a:=by cases d<;>rfl
def wG{c:T->aa T}{a:List T}(d:∀b∈a,c b=G b):iN c a=G a:=by
 induction a with
 |nil=>rfl
 |cons b h e=>
  rw[kv,d b Y,e λf g=>d f c5];rfl
def agN(b:T):Prop:=YL b\/∃a,b= .agg a/\∀c∈a,YL c
theorem agN.freeze{e:T}(d:agN e)(b:H)(c a:Nat):freeze b c (a+2) e=G e:=by rcases d with d|⟨f,rfl,g⟩;exact d.freeze b c (a+1);show(Z (iN (Go.TI.freeze b c (a+1)) f) λi=>some (T.agg i))=_;rw[wG λj h=>(g j h).freeze b c a];rfl
section
def DJ(b:List (Nat×Nat))(c d:Nat):Bool:=b.any λa=>a.1==c&&a.2==d
def nJ(a:List (Nat×Nat))(b:Nat):Bool:=a.any λc=>c.1==b
def IY{a:List (Nat×Nat)}{b c:Nat}(h:DJ a b c):nJ a b=true:=by
 unfold DJ at h;unfold nJ;rw[List.any_eq_true]at h|-
 grind
def Yc(g:List (Nat×Nat))(c:af Oper):Bool:=
 let f:=OI c.toList []
 let d:=c.toList.zipIdx
 d.all λa=>d.all λb=> !Nat.blt b.2 a.2|| !((wH b.1.op&&ju a.1.op)||(ju b.1.op&&(wH a.1.op||ju a.1.op)))||(f.getD a.2 0).testBit b.2||DJ g b.2 a.2
def Hi{g:List (Nat×Nat)}{f:af Oper}(i:Yc g f){a b:Nat}{d c:Oper}(l:f[a]? =G d)(m:f[b]? =G c)(p:a<b)
 (o:(wH d.op/\ju c.op=true)\/(ju d.op/\(wH c.op\/ju c.op=true))):kY f a b\/DJ g a b=true:=by
 unfold Yc at i;have h2:=List.all_eq_true.1 (List.all_eq_true.1 i (c,b) (mem_zipIdx m)) (d,a) (mem_zipIdx l);have k:Nat.blt a b:=by rw[aQ];omega
 simp only[k,Bool.not_true,Bool.false_or,cm,cO]at h2;rcases h2 with(h2|h2)|h2
 exfalso;rcases o with⟨j,k2⟩|⟨j,k2|k2⟩<;>simp[j,k2]at h2
 exact .inl h2
 grind
def pj(c:List (Nat×Nat))(f b:Nat)(d:List (Nat×H×H)):Prop:=∀a∈d,DJ c a.1 f->il a.2.1 a.2.2 b=true
def zL(b:List (Nat×Nat))(d:Nat)(h c:H)(f:List (Nat×Nat)):Prop:=∀a∈f,DJ b a.1 d->il h c a.2=true
@[simp]def abj (b:List (Nat×Nat)) (c a:Nat):pj b c a []=True:=by simp[pj]
@[simp]def ZL (b:List (Nat×Nat)) (c a g:Nat) (h f:H) (d:List (Nat×H×H)):pj b c a ((g,h,f)::d)=((DJ b g c->il h f a=true)/\pj b c a d):=by simp[pj]
@[simp]def ac8 (a:List (Nat×Nat)) (c:Nat) (h b:H):zL a c h b []=True:=by simp[zL]
@[simp]def abN (a:List (Nat×Nat)) (c f d:Nat) (h b:H) (g:List (Nat×Nat)):zL a c h b ((f,d)::g)=((DJ a f c->il h b d=true)/\zL a c h b g):=by simp[zL]
open Classical in
def AQ(cx:Ctx)(cf:jS)(V:Nat)(g:af Oper)(b:List (Nat×Nat)):List Oper->Nat->List (Nat×Nat)->List (Nat×H×H)->Env->H->aa (Env×H)
 | [],_,_,_,e,h=>some (e,h)
 |o::k,a,f,c,e,h=>Z (nW cx cf V g e h o) λm=>two m λj d=>
  Z (mf g V e o.guard) λr=>
   if r=true then
    if ju o.op=true then
     if zL b a h d f/\(∀p l q i,o.op= .store p l q->Z (iG cx V e l) fD=G i->pj b a i c)then
      AQ cx cf V g b k (a+1) f (if nJ b a=true then(a,h,d)::c else c) j d else none
    else match iY cx V e h o.op with
     |none=>AQ cx cf V g b k (a+1) f c j d
     |some i=>if pj b a i c then AQ cx cf V g b k (a+1) (if nJ b a=true then(a,i)::f else f) c j d else none
   else AQ cx cf V g b k (a+1) f c j d
section
variable {cx:Ctx}{cf:jS}{n V:Nat}
def KS{o:List (Nat×Nat)}{c:af Oper}(K:Yc o c):∀(l:List Oper) (b:Nat) (u:List (Nat×Nat)) (r:List (Nat×H×H)) (g:Seen) (e:Env) (h:H) (q:Env×H),(∀m,l[m]? =c[b+m]?)->
 (∀a∈g.oU,a.1<b/\(∃d,c[a.1]? =G d/\wH d.op=true)/\(nJ o a.1->a∈u))->
 (∀a∈g.mX,a.1<b/\(∃d,c[a.1]? =G d/\ju d.op=true)/\(nJ o a.1->a∈r))->
 AQ cx cf V c o l b u r e h=G q->lH cx cf V c l b g e h=G q:=by
 intro l;induction l with
 |nil=>intro b u r g e h q _ _ _ f;exact f
 |cons d l O=>
  intro b u r g e h q hl B A f;have L:c[b]? =G d:=by have:=hl 0;grind
  have N:∀m,l[m]? =c[b+1+m]? :=λm=>by
   have:=hl (m+1);simp only[dM]at this;rw[this];grind
  show(Z (nW cx cf V c e h d) λa=>two a λp i=>
   Z (mf c V e d.guard) λal=> @Bool.rec (λ_=>aa (Env×H)) (lH cx cf V c l (b+1) g p i)
    (@Bool.rec (λ_=>aa (Env×H))
      (@Option.rec Nat (λ_=>aa (Env×H)) (lH cx cf V c l (b+1) g p i)
        (λj=>iX (qQ c b j g.mX) (lH cx cf V c l (b+1) ⟨(b,j)::g.oU,g.mX⟩ p i)) (iY cx V e h d.op))
      (iX (A0 c b h i g.oU) (iX (uS cx V c b e g.mX d.op) (lH cx cf V c l (b+1) ⟨g.oU,(b,h,i)::g.mX⟩ p i))) (ju d.op)) al)=G q
  unfold AQ at f;obtain⟨⟨p,i⟩,W,f⟩:=eQ.1 f;simp only[nh]at f;obtain⟨w,X,f⟩:=eQ.1 f;rw[W,fw,nh,X,fw];have U:∀a∈g.oU,a.1<b+1/\(∃d,c[a.1]? =G d/\wH d.op=true)/\(nJ o a.1->a∈u):=λa k=>⟨iV (B a k).1,(B a k).2⟩;have R:∀a∈g.mX,a.1<b+1/\(∃d,c[a.1]? =G d/\ju d.op=true)/\(nJ o a.1->a∈r):=λa k=>⟨iV (A a k).1,(A a k).2⟩;have lk:∀j,(wH d.op\/ju d.op=true)->pj o b j r->qQ c b j g.mX=true:=by
   intro j S s;unfold qQ;rw[C3,cw];intro a k;obtain⟨D,⟨ae,E,F⟩,I⟩:=A a k;show @Bool.rec (λ_=>Bool) (kY c a.1 b) true (il a.2.1 a.2.2 j)=true;rcases Hi K E L D (.inr ⟨F,S⟩)with C|t
   rw[C];cases il a.2.1 a.2.2 j<;>rfl;rw[s a (I (IY t)) t]
  cases w
  grind
  simp only[if_true]at f;cases z:ju d.op;rw[z]at f;simp only[dj,if_false]at f;simp only;rcases y:iY cx V e h d.op with _|j
  rw[y]at f;grind;rw[y]at f;simp only at f;split at f;rename_i s;have T:=LK y;simp only[lk j (.inl T) s,iP];refine O (b+1) _ _ _ p i q N (λa k=>?_) R f
  grind
  grind
  rw[z]at f;simp only[if_true]at f;split at f;rename_i s;have P:A0 c b h i g.oU:=by
   unfold A0;rw[C3,cw];intro a k;obtain⟨D,⟨ae,E,F⟩,I⟩:=B a k;show @Bool.rec (λ_=>Bool) (kY c a.1 b) true (il h i a.2)=true;rcases Hi K E L D (.inl ⟨F,z⟩)with C|t
   rw[C];cases il h i a.2<;>rfl;rw[s.1 a (I (IY t)) t]
  have Q:uS cx V c b e g.mX d.op:=by
   unfold uS;split;rename_i m x v ao;rcases an:Z (iG cx V e x) fD with _|j
   rfl
   grind
   rfl
  simp only[P,Q,iP];refine O (b+1) _ _ _ p i q N U (λa k=>?_) f
  grind
  grind
abbrev DL:=List (Nat×List (Nat×Nat))
def SW(cx:Ctx)(cf:jS)(V:Nat)(dl:DL)(id:Nat)(a:af Oper)(e:Env)(h:H):Out:=
 match dl.lookup id with
 |none=>Z (mK cx cf V a a.toList ⟨e.vars,.nil⟩ h) λd=>two d λb c=>some (.normal,⟨b.vars,.nil⟩,c)
 |some f=>Z (AQ cx cf V a f a.toList 0 [] [] ⟨e.vars,.nil⟩ h) λd=>two d λb c=>some (.normal,⟨b.vars,.nil⟩,c)
def kN(cx:Ctx)(cf:jS)(b V:Nat)(dl:DL):Code->Env->H->Out
 | .skip=>λe h=>some (.normal,e,h)
 | .region id f _=>SW cx cf V dl id f
 | .seq c a=>HN (kN cx cf b V dl c) (kN cx cf b V dl a)
 | .cond d c a=>P2 cx V d (kN cx cf b V dl c) (kN cx cf b V dl a)
 | .block id a=>D5 id (kN cx cf b V dl a)
 | .loop a=>su (kN cx cf b V dl a) b
 | .exit id=>λe h=>some (.exit id,e,h)
 | .ret=>λe h=>some (.ret,e,h)
 |_=>λ_ _=>none
def pG(dl:DL):Code->Bool
 | .region id d c=>(match dl.lookup id with|none=> !c||Pd d|some f=>c&&Yc f d)
 | .seq a b=>pG dl a&&pG dl b
 | .cond _ a b=>pG dl a&&pG dl b
 | .block _ a=>pG dl a
 | .loop a=>pG dl a
 |_=>true
def uj{dl:DL}:∀(m:Code),pG dl m->∀e h b,kN cx cf n V dl m e h=G b->lV cx cf n V m e h=G b:=by
 intro m;induction m with
 |region id j w=>
  intro c e h b a;obtain⟨r,D⟩:=e;replace a:SW cx cf V dl id j ⟨r,D⟩ h=G b:=a;unfold SW at a;simp[pG]at c;rcases hl:dl.lookup id with _|F
  rw[hl]at a c;cases w;exact a;simp[Bool.not_true,Bool.false_or]at c;show(Z (lH cx cf V j j.toList 0 ⟨[],[]⟩ ⟨r,.nil⟩ h) λb=>two b λf g=>some (Ex.normal,(⟨f.vars,.nil⟩:Env),g))=G b;rw[Jj c j.toList 0 ⟨[],[]⟩ ⟨r,.nil⟩ h (λu=>by simp) (λl p=>by grind) (λl p=>by grind)];exact a;rw[hl]at a c;simp[aC]at a c;obtain⟨rfl,c⟩:=c;obtain⟨l,p,a⟩:=eQ.1 a;show(Z (lH cx cf V j j.toList 0 ⟨[],[]⟩ ⟨r,.nil⟩ h) λb=>two b λf g=>some (Ex.normal,(⟨f.vars,.nil⟩:Env),g))=G b;rw[KS c j.toList 0 [] [] ⟨[],[]⟩ ⟨r,.nil⟩ h l (λu=>by simp) (λl p=>by grind) (λl p=>by grind) p,fw];exact a
 |seq d s v A=>
  intro c e h b a;simp[pG,aC]at c;have a:=a;show HN (lV cx cf n V d) (lV cx cf n V s) e h=G b;unfold HN at*
  obtain⟨⟨k,x,y⟩,o,a⟩:=eQ.1 a;rw[v c.1 e h _ o,fw];simp[nV]at*
  cases k with
  |normal=>grind
  |exit q=>exact a
  |ret=>exact a
 |cond C d s v A=>
  intro c e h b a;simp[pG,aC]at c;have a:=a;show P2 cx V C (lV cx cf n V d) (lV cx cf n V s) e h=G b;unfold P2 at*
  obtain⟨E,z,a⟩:=eQ.1 a;rw[z,fw];cases E<;>first|exact a|skip
  rename_i u;cases u
  grind
  grind
 |block id d t=>
  intro c e h b a;simp[pG]at c;have a:=a;show D5 id (lV cx cf n V d) e h=G b;unfold D5 at*
  obtain⟨l,o,a⟩:=eQ.1 a;rw[t c e h _ o,fw];exact a
 |loop d t=>
  intro c e h b a;simp[pG]at c;have B:∀i e h b,su (kN cx cf n V dl d) i e h=G b->su (lV cx cf n V d) i e h=G b:=by
   intro i;induction i with
   |zero=>simp[su]
   |succ i I=>
    intro e h b a;have a:(Z (kN cx cf n V dl d e h) λb=>three b λk f g=> @Ex.rec (λ_=>Out) (su (kN cx cf n V dl d) i f g) (λq=>some (.exit q,f,g)) (some (.ret,f,g)) k)=G b:=a;show(Z (lV cx cf n V d e h) λb=>three b λk f g=> @Ex.rec (λ_=>Out) (su (lV cx cf n V d) i f g) (λq=>some (.exit q,f,g)) (some (.ret,f,g)) k)=G b;obtain⟨⟨k,x,y⟩,o,a⟩:=eQ.1 a;rw[t c e h _ o,fw];simp[nV]at*
    cases k with
    |normal=>grind
    |exit q=>exact a
    |ret=>exact a
  exact B n e h b a
 |_=>intro _ e h b a;first|exact a|(simp[kN]at a)
def WR(cx:Ctx)(cf:jS)(V:Nat)(f:af Oper)(d:List Oper)(i g:iM)(h:H)(c:iM->H->Prop):Prop:=
 ∃a b,mK cx cf V f d ⟨i,g⟩ h=G (a,b)/\c a.vars b
def WX(c:aa (T×H))(b:T->H->Prop):Prop:=∃a h,c=G (a,h)/\b a h
@[simp]def C5 (b:T) (h:H) (d:T->H->Prop):WX (some (b,h)) d=d b h:=by apply propext;constructor;rintro⟨g,f,c,a⟩;simp[aw,aH]at c;obtain⟨rfl,rfl⟩:=c;exact a;exact λa=>⟨b,h,rfl,a⟩
def WD(V:Nat)(g:aa Tmp)(f:T)(d c:iM)(a:iM->iM->Prop):Prop:=match g with
 |none=>a d c
 |some b=>if lO V b=true then a (put d b f) c else a d (.cons b f c)
def GG(a b:Nat):(lO a b=true)=((a>>>b)&&&1=1):=by apply propext;show Nat.beq ((a>>>b)&&&1) 1=true↔_;exact⟨aK,λh=>by rw[h];rfl⟩
def Kx(a:Tmp)(d:T)(f c:iM)(b:iM->iM->Prop):WD V (some a) d f c b=if(V>>>a)&&&1=1 then b (put f a d) c else b f (.cons a d c):=by simp[WD,GG]
def VY(i:af Oper)(a b:iM)(h:H)(c:iM->H->Prop):WR cx cf V i [] a b h c=c a h:=by
 apply propext;constructor;rintro⟨e,g,d,f⟩;have d:some ((⟨a,b⟩:Env),h)=G (e,g):=d
 grind
 exact λf=>⟨⟨a,b⟩,h,rfl,f⟩
def Kw(l:af Oper)(k:Oper)(j:List Oper)(b a:iM)(h:H)(q:iM->H->Prop):
 WR cx cf V l (k::j) b a h q=WX (B0 cx cf V l ⟨b,a⟩ h k) λc d=>WD V k.dst c b a λb a=>WR cx cf V l j b a d q:=by
 have u:∀c d,(∃f,Env.dst V ⟨b,a⟩ k.dst c=G f/\WR cx cf V l j f.vars f.tmps d q)↔WD V k.dst c b a λb a=>WR cx cf V l j b a d q:=by
  intro c d;rcases x:k.dst with _|m
  constructor;rintro⟨f,g,p⟩;have g:some (⟨b,a⟩:Env)=G f:=g;cases g;exact p;exact λp=>⟨_,rfl,p⟩;have hE:Env.dst V ⟨b,a⟩ (some m) c=G (if lO V m=true then⟨put b m c,a⟩else⟨b,.cons m c a⟩):=by
   show @Bool.rec (λ_=>aa Env) (some ⟨b,.cons m c a⟩) (Z (pQ b m c) λj=>some ⟨j,a⟩) (lO V m)=_;rw[sL];cases lO V m<;>rfl
  rw[hE];unfold WD;simp[aw,exists_eq_left'];split<;>rfl
 apply propext;have v:mK cx cf V l (k::j) ⟨b,a⟩ h=Z (nW cx cf V l ⟨b,a⟩ h k) λw=>two w λo d=>mK cx cf V l j o d:=rfl;unfold WR;rw[v,uT];constructor;rintro⟨o,d,i,s⟩;have⟨⟨c,r⟩,t,i⟩:=eQ.1 i;simp[nh]at i;have⟨f,g,i⟩:=eQ.1 i;exact⟨c,r,t,(u c r).1 ⟨f,g,o,d,i,s⟩⟩;rintro⟨c,r,t,p⟩;have⟨f,g,o,d,i,s⟩:=(u c r).2 p;refine⟨o,d,?_,s⟩;rw[t,fw,nh,g,fw];exact i
def agE(f:af Oper)(g:aa Tmp)(i:Op)(m:ab)(l:String)(j:af Edge)(d:List Oper)(b a:iM)(h:H)(c:iM->H->Prop):
 WR cx cf V f (⟨g,i,m,l,j,none⟩::d) b a h c=WX (fin cf h (j9 i cx V ⟨b,a⟩ h)) λo k=>WD V g o b a λb a=>WR cx cf V f d b a k c:=Kw f _ d b a h c
def WG(c:aa Bool)(a b:Prop):Prop:=match c with|some true=>a|some false=>b|none=>False
def Qt(a b:Prop):WG (some true) a b=a:=rfl
def ML(b a:Prop):WG (some false) b a=a:=rfl
def VZ(c:af Oper)(i:aa Tmp)(k:Op)(q:ab)(p:String)(o:af Edge)(f:Nat)(d:Bool)(j:List Oper)(b a:iM)(h:H)(g:iM->H->Prop):
 WR cx cf V c (⟨i,k,q,p,o,some (f,d)⟩::j) b a h g=WG (mf c V ⟨b,a⟩ (some (f,d)))
  (WX (fin cf h (j9 k cx V ⟨b,a⟩ h)) λm l=>WD V i m b a λb a=>WR cx cf V c j b a l g)
  (WD V i .undef b a λb a=>WR cx cf V c j b a h g):=by
 rw[Kw];show WX (Z (mf c V ⟨b,a⟩ (some (f,d))) λs=> @Bool.rec (λ_=>aa (T×H)) (some (.undef,h)) (fin cf h (j9 k cx V ⟨b,a⟩ h)) s) _=_;cases mf c V ⟨b,a⟩ (some (f,d))with
 |none=>apply propext;constructor<;>(first|(rintro⟨m,l,t,_⟩;simp_all)|exact False.elim)
 |some r=>cases r<;>simp[Qt,ML]
def O0(a:aa T)(b:Bool):aa Bool:=Z a λa=>match a with| .bool c=>some (c==b)|_=>some false
@[simp]theorem Fo (b a:Bool):O0 (some (.bool b)) a=G (b==a):=rfl
@[simp]theorem YQ (a:Bool):O0 (some .undef) a=G false:=rfl
@[simp]def Fq (d:List Oper) (e:Env) (c:Nat) (f:Bool):mf d.toArray V e (some (c,f))=O0 (Z (Z (d[c]?) λb=>b.dst) λa=>e.get V a) f:=by
 show(Z (Z (Z (qN d.toArray.toList c) λb=>b.dst) λa=>e.get V a) λg=>_)=_;rw[m6];unfold O0;simp only;cases (Z (Z (d[c]?) λb=>b.dst) λa=>e.get V a)with
 |none=>rfl
 |some g=>cases g<;>first|rfl|(rename_i i;cases i<;>cases f<;>rfl)
@[simp]theorem E6 (c b:iM) (a:Nat):Env.get V ⟨c,b⟩ a=if(V>>>a)&&&1=1 then mB c a else mB b a:=by show @Bool.rec (λ_=>aa T) (mB b a) (mB c a) (lO V a)=_;simp only[<-GG];cases lO V a<;>rfl
def ON(cx:Ctx)(cf:jS)(V:Nat)(k:af Oper)(d:List (Nat×Nat))(i:List Oper)(g:Nat)(j:List (Nat×Nat))(f:List (Nat×H×H))(m l:iM)(h:H)(c:iM->H->Prop):Prop:=
 ∃a b,AQ cx cf V k d i g j f ⟨m,l⟩ h=G (a,b)/\c a.vars b
def Qr(m:af Oper)(g:List (Nat×Nat))(k:Nat)(l:List (Nat×Nat))(i:List (Nat×H×H))(a b:iM)(h:H)(c:iM->H->Prop):ON cx cf V m g [] k l i a b h c=c a h:=by
 apply propext;constructor;rintro⟨e,j,d,f⟩;have d:some ((⟨a,b⟩:Env),h)=G (e,j):=d
 grind
 exact λf=>⟨⟨a,b⟩,h,rfl,f⟩
def DK(cx:Ctx)(V:Nat)(d:List (Nat×Nat))(a:Nat)(f:List (Nat×Nat))(b:List (Nat×H×H))(i:Op)(e:Env)(h j:H)(g:List (Nat×Nat)->List (Nat×H×H)->Prop):Prop:=
 if ju i=true then(zL d a h j f/\(∀l k m c,i= .store l k m->Z (iG cx V e k) fD=G c->pj d a c b))/\g f (if nJ d a=true then(a,h,j)::b else b)
 else match iY cx V e h i with
  |none=>g f b
  |some c=>pj d a c b/\g (if nJ d a=true then(a,c)::f else f) b
def MK(u:af Oper)(y:List (Nat×Nat))(i:Oper)(x:List Oper)(z:Nat)(q:List (Nat×Nat))(o:List (Nat×H×H))(b a:iM)(h:H)(A:iM->H->Prop):
 ON cx cf V u y (i::x) z q o b a h A=WG (mf u V ⟨b,a⟩ i.guard)
  (WX (fin cf h (j9 i.op cx V ⟨b,a⟩ h)) λj c=>DK cx V y z q o i.op ⟨b,a⟩ h c λq o=>WD V i.dst j b a λb a=>ON cx cf V u y x (z+1) q o b a c A)
  (WD V i.dst .undef b a λb a=>ON cx cf V u y x (z+1) q o b a h A):=by
 have t:∀j c (q:List (Nat×Nat)) (o:List (Nat×H×H)),(∃g,Env.dst V ⟨b,a⟩ i.dst j=G g/\ON cx cf V u y x (z+1) q o g.vars g.tmps c A)↔WD V i.dst j b a λb a=>ON cx cf V u y x (z+1) q o b a c A:=by
  intro j c q o;rcases L:i.dst with _|v
  constructor;rintro⟨g,f,r⟩;have f:some (⟨b,a⟩:Env)=G g:=f;cases f;exact r;exact λr=>⟨_,rfl,r⟩;have hE:Env.dst V ⟨b,a⟩ (some v) j=G (if lO V v=true then⟨put b v j,a⟩else⟨b,.cons v j a⟩):=by
   show @Bool.rec (λ_=>aa Env) (some ⟨b,.cons v j a⟩) (Z (pQ b v j) λx=>some ⟨x,a⟩) (lO V v)=_;rw[sL];cases lO V v<;>rfl
  rw[hE];unfold WD;simp[aw,exists_eq_left'];split<;>rfl
 apply propext;constructor;rintro⟨l,c,p,m⟩;unfold AQ at p;rw[uT]at p;obtain⟨⟨j,D⟩,s,E⟩:=eQ.1 p;simp[nh]at E;obtain⟨g,f,F⟩:=eQ.1 E;obtain⟨C,r,k⟩:=eQ.1 F;clear p E F;unfold B0 at s;rw[r,fw]at s;rw[r];cases C;replace s:some (T.undef,h)=G (j,D):=s;simp[aw,aH]at s;obtain⟨rfl,rfl⟩:=s;simp[dj]at k;exact(t _ _ q o).1 ⟨g,f,l,c,k,m⟩;simp at k;refine⟨j,D,s,?_⟩;unfold DK;split;rename_i hE;rw[au hE]at k;split at k;rename_i w;exact⟨w,(t _ _ _ _).1 ⟨g,f,l,c,k,m⟩⟩
 grind
 rename_i hE;rw[aq hE]at k;rcases B:iY cx V ⟨b,a⟩ h i.op with _|K
 rw[B]at k;exact(t _ _ _ _).1 ⟨g,f,l,c,k,m⟩;rw[B]at k
 dsimp at k
 split at k;rename_i w;exact⟨w,(t _ _ _ _).1 ⟨g,f,l,c,k,m⟩⟩
 grind
 intro d;unfold ON AQ;rw[uT];rcases r:mf u V ⟨b,a⟩ i.guard with _|C
 rw[r]at d;exact d.elim;rw[r]at d;have I:B0 cx cf V u ⟨b,a⟩ h i= @Bool.rec (λ_=>aa (T×H)) (some (.undef,h)) (fin cf h (j9 i.op cx V ⟨b,a⟩ h)) C:=by
  unfold B0;rw[r,fw]
 cases C;obtain⟨g,f,l,c,p,m⟩:=(t _ _ q o).2 d;refine⟨l,c,?_,m⟩;rw[I];simp_all;obtain⟨j,D,s,d⟩:=d;rw[I];simp[s,fw,nh];unfold DK at d;split at d;rename_i hE;obtain⟨w,d⟩:=d;obtain⟨g,f,l,c,p,m⟩:=(t _ _ _ _).2 d;refine⟨l,c,?_,m⟩;rw[f,fw,au hE,au w];exact p;rename_i hE;rcases B:iY cx V ⟨b,a⟩ h i.op with _|K
 rw[B]at d;obtain⟨g,f,l,c,p,m⟩:=(t _ _ _ _).2 d;refine⟨l,c,?_,m⟩;rw[f,fw,aq hE];exact p;rw[B]at d;obtain⟨w,d⟩:=d;obtain⟨g,f,l,c,p,m⟩:=(t _ _ _ _).2 d;refine⟨l,c,?_,m⟩;rw[f,fw,aq hE];simp only;rw[au w];exact p
def acs(l:af Oper)(f:List (Nat×Nat))(m:aa Tmp)(k:Op)(r:ab)(q:String)(p:af Edge)(j:List Oper)(g:Nat)(d:List (Nat×Nat))(c:List (Nat×H×H))(b a:iM)(h:H)(i:iM->H->Prop):
 ON cx cf V l f (⟨m,k,r,q,p,none⟩::j) g d c b a h i=
  WX (fin cf h (j9 k cx V ⟨b,a⟩ h)) λs o=>DK cx V f g d c k ⟨b,a⟩ h o λd c=>WD V m s b a λb a=>ON cx cf V l f j (g+1) d c b a o i:=MK l f _ j g d c b a h i
def RK(cx:Ctx)(cf:jS)(V:Nat)(d:af Oper)(c:List Oper)(a f:iM)(h:H)(b:jH):Prop:=WR cx cf V d c a f h λa h=>b.n ⟨a,.nil⟩ h
def XK(k:aa (T×H))(cx:Ctx)(cf:jS)(V:Nat)(i:af Oper)(d:aa Tmp)(g:List Oper)(b a:iM)(c:jH):Prop:=WX k λj f=>WD V d j b a λb a=>RK cx cf V i g b a f c
def GK(j:aa Bool)(cx:Ctx)(cf:jS)(V:Nat)(g:af Oper)(d:aa Tmp)(i:Op)(f:List Oper)(b a:iM)(h:H)(c:jH):Prop:=
 WG j (XK (fin cf h (j9 i cx V ⟨b,a⟩ h)) cx cf V g d f b a c) (WD V d .undef b a λb a=>RK cx cf V g f b a h c)
@[simp]def ajG (c:af Oper) (a d:iM) (h:H) (b:jH):RK cx cf V c [] a d h b=b.n ⟨a,.nil⟩ h:=VY c a d h _
@[simp]def akd (g:af Oper) (c:aa Tmp) (f:Op) (l:ab) (k:String) (j:af Edge) (d:List Oper) (b a:iM) (h:H) (i:jH):
 RK cx cf V g (⟨c,f,l,k,j,none⟩::d) b a h i=XK (fin cf h (j9 f cx V ⟨b,a⟩ h)) cx cf V g c d b a i:=agE g c f l k j d b a h _
@[simp]def gu (a:af Oper) (f:aa Tmp) (j:Op) (o:ab) (m:String) (l:af Edge) (g:Nat) (d:Bool) (i:List Oper) (c b:iM) (h:H) (k:jH):
 RK cx cf V a (⟨f,j,o,m,l,some (g,d)⟩::i) c b h k=GK (mf a V ⟨c,b⟩ (some (g,d))) cx cf V a f j i c b h k:=VZ a f j o m l g d i c b h _
@[simp]theorem ahV (g:T) (h:H) (c:af Oper) (b:List Oper) (f d:iM) (a:jH):XK (some (g,h)) cx cf V c none b f d a=RK cx cf V c b f d h a:=by unfold XK;rw[C5];rfl
@[simp]def ahU (g:T) (h:H) (d:af Oper) (a:Tmp) (c:List Oper) (i f:iM) (b:jH):XK (some (g,h)) cx cf V d (some a) c i f b=
 if(V>>>a)&&&1=1 then RK cx cf V d c (put i a g) f h b else RK cx cf V d c i (.cons a g f) h b:=by
 unfold XK;rw[C5,Kx]
@[simp]def ah6 (i:af Oper) (d:aa Tmp) (g:Op) (f:List Oper) (b a:iM) (h:H) (c:jH):GK (some true) cx cf V i d g f b a h c=XK (fin cf h (j9 g cx V ⟨b,a⟩ h)) cx cf V i d f b a c:=a9
@[simp]def agK (g:af Oper) (c:Tmp) (i:Op) (f:List Oper) (b a:iM) (h:H) (d:jH):GK (some false) cx cf V g (some c) i f b a h d=if(V>>>c)&&&1=1 then RK cx cf V g f (put b c .undef) a h d else RK cx cf V g f b (.cons c .undef a) h d:=by show WD V (some c) .undef b a (λb a=>RK cx cf V g f b a h d)=_;rw[Kx]
def SH(cx:Ctx)(V:Nat)(b:List (Nat×Nat))(d:Nat)(c:List (Nat×H×H))(f:Op)(e:Env):Prop:=match f with
 | .store _ g _=>(match Z (iG cx V e g) fD with|some a=>pj b d a c|none=>True)
 |_=>True
def VI(b:List (Nat×Nat))(d:Nat)(c:List (Nat×H×H))(f:aa Nat):Prop:=match f with|some a=>pj b d a c|none=>True
def acn (a:List (Nat×Nat)) (c:Nat) (b:List (Nat×H×H)):VI a c b none=True:=a9
def acm (b:List (Nat×Nat)) (d:Nat) (c:List (Nat×H×H)) (a:Nat):VI b d c (some a)=pj b d a c:=a9
def FA (a:List (Nat×Nat)) (c:Nat) (b:List (Nat×H×H)) (f:ab) (d g:ah) (e:Env):SH cx V a c b (.store f d g) e=VI a c b (Z (iG cx V e d) fD):=a9
def acC (b:List (Nat×Nat)) (d:Nat) (c:List (Nat×H×H)) (a:Call) (e:Env):SH cx V b d c (.call a) e=True:=a9
attribute [simp] acn acm FA acC
def YN(cx:Ctx)(cf:jS)(V:Nat)(j:af Oper)(c:List (Nat×Nat))(g:List Oper)(f:Nat)(i:List (Nat×Nat))(d:List (Nat×H×H))(a k:iM)(h:H)(b:jH):Prop:=ON cx cf V j c g f i d a k h λa h=>b.n ⟨a,.nil⟩ h
def V9(q:aa (T×H))(cx:Ctx)(cf:jS)(V:Nat)(o:af Oper)(f:List (Nat×Nat))(k:aa Tmp)(m:Op)(l:List Oper)(i:Nat)(d:List (Nat×Nat))(c:List (Nat×H×H))(b a:iM)(h:H)(j:jH):Prop:=
 WX q λp g=>DK cx V f i d c m ⟨b,a⟩ h g λd c=>WD V k p b a λb a=>YN cx cf V o f l (i+1) d c b a g j
def Wt(m:T)(cx:Ctx)(cf:jS)(V:Nat)(l:af Oper)(d:List (Nat×Nat))(f:aa Tmp)(j:List Oper)(i:Nat)(k:List (Nat×Nat))(g:List (Nat×H×H))(b a:iM)(h:H)(c:jH):Prop:=WD V f m b a λb a=>YN cx cf V l d j i k g b a h c
def DLK(p:aa Nat)(m:T)(cx:Ctx)(cf:jS)(V:Nat)(k:af Oper)(b:List (Nat×Nat))(i:aa Tmp)(j:List Oper)(a:Nat)(d:List (Nat×Nat))(c:List (Nat×H×H))(o l:iM)(h:H)(f:jH):Prop:=match p with
 |none=>Wt m cx cf V k b i j (a+1) d c o l h f
 |some g=>pj b a g c/\Wt m cx cf V k b i j (a+1) (if nJ b a=true then(a,g)::d else d) c o l h f
def agT (l:T) (j:af Oper) (b:List (Nat×Nat)) (c:aa Tmp) (g:List Oper) (f:Nat) (i:List (Nat×Nat)) (d:List (Nat×H×H)) (m k:iM) (h:H) (a:jH):DLK none l cx cf V j b c g f i d m k h a=Wt l cx cf V j b c g (f+1) i d m k h a:=a9
def Wa (c:Nat) (m:T) (k:af Oper) (b:List (Nat×Nat)) (i:aa Tmp) (j:List Oper) (a:Nat) (f:List (Nat×Nat)) (d:List (Nat×H×H)) (o l:iM) (h:H) (g:jH):DLK (some c) m cx cf V k b i j a f d o l h g=(pj b a c d/\Wt m cx cf V k b i j (a+1) (if nJ b a=true then(a,c)::f else f) d o l h g):=a9
def agS (l:T) (i:af Oper) (b:List (Nat×Nat)) (f:List Oper) (d:Nat) (g:List (Nat×Nat)) (c:List (Nat×H×H)) (k j:iM) (h:H) (a:jH):Wt l cx cf V i b none f d g c k j h a=YN cx cf V i b f d g c k j h a:=a9
attribute [simp] agT Wa agS
@[simp]def agQ (l:T) (j:af Oper) (c:List (Nat×Nat)) (a:Tmp) (g:List Oper) (f:Nat) (i:List (Nat×Nat)) (d:List (Nat×H×H)) (m k:iM) (h:H) (b:jH):Wt l cx cf V j c (some a) g f i d m k h b=
 if(V>>>a)&&&1=1 then YN cx cf V j c g f i d (put m a l) k h b else YN cx cf V j c g f i d m (.cons a l k) h b:=by unfold Wt;rw[Kx]
@[simp]def aid (i:af Oper) (c:List (Nat×Nat)) (f:Nat) (g:List (Nat×Nat)) (d:List (Nat×H×H)) (a j:iM) (h:H) (b:jH):YN cx cf V i c [] f g d a j h b=b.n ⟨a,.nil⟩ h:=Qr i c f g d a j h _
@[simp]def ajJ (l:af Oper) (d:List (Nat×Nat)) (f:aa Tmp) (a:Op) (q:ab) (p:String) (o:af Edge) (j:List Oper) (i:Nat) (k:List (Nat×Nat)) (g:List (Nat×H×H)) (c b:iM) (h:H) (m:jH):
 YN cx cf V l d (⟨f,a,q,p,o,none⟩::j) i k g c b h m=V9 (fin cf h (j9 a cx V ⟨c,b⟩ h)) cx cf V l d f a j i k g c b h m:=acs l d f a q p o j i k g c b h _
def DEK(q:Bool)(p:T)(d:H)(cx:Ctx)(cf:jS)(V:Nat)(o:af Oper)(b:List (Nat×Nat))(k:aa Tmp)(m:Op)(l:List Oper)(a:Nat)(i:List (Nat×Nat))(c:List (Nat×H×H))(g f:iM)(h:H)(j:jH):Prop:=match q with
 |true=>(zL b a h d i/\SH cx V b a c m ⟨g,f⟩)/\Wt p cx cf V o b k l (a+1) i (if nJ b a=true then(a,h,d)::c else c) g f d j
 |false=>DLK (iY cx V ⟨g,f⟩ h m) p cx cf V o b k l a i c g f d j
@[simp]def Wb (p:T) (d:H) (o:af Oper) (b:List (Nat×Nat)) (k:aa Tmp) (m:Op) (l:List Oper) (a:Nat) (f:List (Nat×Nat)) (c:List (Nat×H×H)) (i g:iM) (h:H) (j:jH):DEK true p d cx cf V o b k m l a f c i g h j=((zL b a h d f/\SH cx V b a c m ⟨i,g⟩)/\Wt p cx cf V o b k l (a+1) f (if nJ b a=true then(a,h,d)::c else c) i g d j):=a9
@[simp]def Se (p:T) (i:H) (o:af Oper) (d:List (Nat×Nat)) (f:aa Tmp) (m:Op) (k:List Oper) (j:Nat) (l:List (Nat×Nat)) (g:List (Nat×H×H)) (b a:iM) (h:H) (c:jH):DEK false p i cx cf V o d f m k j l g b a h c=DLK (iY cx V ⟨b,a⟩ h m) p cx cf V o d f k j l g b a i c:=a9
@[simp]theorem agP (c:T) (q:H) (u:af Oper) (i:List (Nat×Nat)) (p:aa Tmp) (a:Op) (s:List Oper) (k:Nat) (t:List (Nat×Nat)) (j:List (Nat×H×H)) (d b:iM) (h:H) (o:jH):
 V9 (some (c,q)) cx cf V u i p a s k t j d b h o=DEK (ju a) c q cx cf V u i p a s k t j d b h o:=by
 unfold V9;rw[C5];unfold DK;cases hE:ju a with
 |true=>
  rw[au rfl,Wb];have:(∀m f c g,a= .store m f c->Z (iG cx V ⟨d,b⟩ f) fD=G g->pj i k g j)↔SH cx V i k j a ⟨d,b⟩:=by
   constructor
   .intro l;cases a<;>first|exact trivial|skip
    rename_i m f c;rw[FA];rcases r:Z (iG cx V ⟨d,b⟩ f) fD with _|g
    simp;simp_all
   intro l m f c g v r;subst v;rw[FA,r]at l;exact l
  rw[this];rfl
 |false=>
  rw[aq Y,Se];cases iY cx V ⟨d,b⟩ h a<;>rfl
section
variable (e:Env)(h:H)
def ZM (a:ab) (c b:ah):ju (.store a c b)=true:=a9
def ZN (b:ah) (a:af ah) (c:af ab):ju (.call ⟨.value b,a,c⟩)=true:=a9
def ZO (a:Builtin) (b:af ah) (c:af ab):ju (.call ⟨.builtin a,b,c⟩)=(match a with| .len| .min| .max=>false|_=>true):=a9
def abp (a:ah):ju (.move a)=false:=a9
def XH (a:ah):ju (.assign a)=false:=a9
def abq (a:ab) (b:ah):ju (.load a b)=false:=a9
def afC (a:ah):ju (.nilCheck a)=false:=a9
def afG (b:ab) (c:ah) (a:Nat):ju (.fieldAddr b c a)=false:=a9
def afF (a:ab) (b c:ah):ju (.indexAddr a b c)=false:=a9
def acZ (a:BinOp) (b c:ab) (d f:ah):ju (.binOp a b d f c)=false:=a9
def ZQ (a:ab):ju (.alloc a)=false:=a9
def ZP (b:ab) (a:af (Nat×ah)):ju (.build b a)=false:=a9
def afI (b:ab) (n:Nat) (a:af (Nat×ah)):ju (.buildSlice b n a)=false:=a9
def afD (a:ab) (b c:ah):ju (.makeSlice a b c)=false:=a9
def afB (d:ab) (f:ah) (a b c:aa ah):ju (.slice d f a b c)=false:=a9
def afH (b:ah) (a:Nat):ju (.extract b a)=false:=a9
def afE (c:Fn) (a b:af ah):ju (.makeFunc c a b)=false:=a9
def ahe (b:ab) (a:ah):iY cx V e h (.load b a)=Z (iG cx V e a) fD:=a9
def aj7 (b:ab) (a c:ah):iY cx V e h (.indexAddr b a c)=Z (iG cx V e a) fD:=a9
def aj3 (f:ab) (a:ah) (b c d:aa ah):iY cx V e h (.slice f a b c d)=Z (iG cx V e a) fD:=a9
def afx (a:ab):iY cx V e h (.alloc a)=G h.size:=a9
def aka (b:ab) (n:Nat) (a:af (Nat×ah)):iY cx V e h (.buildSlice b n a)=G h.size:=a9
def aj5 (a:ab) (b c:ah):iY cx V e h (.makeSlice a b c)=G h.size:=a9
def ahd (a:ah):iY cx V e h (.move a)=none:=a9
def acY (a:ah):iY cx V e h (.assign a)=none:=a9
def aj4 (a:ah):iY cx V e h (.nilCheck a)=none:=a9
def aj8 (b:ab) (c:ah) (a:Nat):iY cx V e h (.fieldAddr b c a)=none:=a9
def ai5 (a:BinOp) (b c:ab) (d f:ah):iY cx V e h (.binOp a b d f c)=none:=a9
def afw (b:ab) (a:af (Nat×ah)):iY cx V e h (.build b a)=none:=a9
def aj9 (b:ah) (a:Nat):iY cx V e h (.extract b a)=none:=a9
def ahf (a:Call):iY cx V e h (.call a)=none:=a9
def aj6 (c:Fn) (a b:af ah):iY cx V e h (.makeFunc c a b)=none:=a9
def adh (a b c d:Nat):fD (.ptr a b c d)=G a:=a9
theorem D4 (a b f d:Nat) (c:Bool):fD (.arr a b f d c)=G a:=a9
def acj (a:List T) (b:Bool):fD (.fg a b)=none:=a9
def ack (a:List T):fD (.kH a)=none:=a9
def adi (a:ak) (n:Int):fD (.int a n)=none:=a9
attribute [simp] ZM ZN ZO abp XH abq afC afG afF acZ ZQ ZP afI afD afB afH afE ahe aj7 aj3 afx aka aj5 ahd acY aj4 aj8 ai5 afw aj9 ahf aj6 adh D4 acj ack adi
end
variable {dl:DL}
def QK(cx:Ctx)(cf:jS)(V:Nat)(a:List Oper)(f:aa (List (Nat×Nat)))(c:iM)(h:H)(b:jH):Prop:=match f with
 |none=>RK cx cf V a.toArray a c .nil h b
 |some d=>YN cx cf V a.toArray d a 0 [] [] c .nil h b
@[simp]def ah4 (a:List Oper) (c:iM) (h:H) (b:jH):QK cx cf V a none c h b=RK cx cf V a.toArray a c .nil h b:=a9
@[simp]def ah2 (a:List Oper) (c:List (Nat×Nat)) (d:iM) (h:H) (b:jH):QK cx cf V a (some c) d h b=YN cx cf V a.toArray c a 0 [] [] d .nil h b:=a9
def Z4(c:aa (Env×H))(d:jH):W (Z c λg=>two g λb a=>some (.normal,(⟨b.vars,.nil⟩:Env),a)) d=∃b a,c=G (b,a)/\d.n ⟨b.vars,.nil⟩ a:=by
 rcases c with _|f;apply propext;constructor<;>(first|(rintro⟨k,a,j,i,_⟩;simp_all)|simp);obtain⟨b,a⟩:=f;simp[fw,nh,HA,aw,aH]
 grind
@[simp]def ajE (id:Nat) (b:List Oper) (f:Bool) (c d:iM) (h:H) (a:jH):W (kN cx cf n V dl (.region id b.toArray f) ⟨c,d⟩ h) a=QK cx cf V b (dl.lookup id) c h a:=by
 show W (SW cx cf V dl id b.toArray ⟨c,d⟩ h) a=_;unfold SW;rcases dl.lookup id with _|g
 exact Z4 _ a;exact Z4 _ a
@[simp]def ajC (b c:Code) (e:Env) (h:H) (a:jH):W (kN cx cf n V dl (.seq b c) e h) a=W (kN cx cf n V dl b e h) (JF (kN cx cf n V dl c) a):=agy _ _ e h a
@[simp]def agB (id:Nat) (b:Code) (e:Env) (h:H) (a:jH):W (kN cx cf n V dl (.block id b) e h) a=W (kN cx cf n V dl b e h) (vK id a):=YA id _ e h a
def CK(d:aa T)(cx:Ctx)(cf:jS)(n V:Nat)(dl:DL)(b c:Code)(e:Env)(h:H)(a:jH):Prop:=U8 d (W (kN cx cf n V dl b e h) a) (W (kN cx cf n V dl c e h) a)
@[simp]def ik (d:Bool) (b c:Code) (e:Env) (h:H) (a:jH):CK (some (.bool d)) cx cf n V dl b c e h a=if d=true then W (kN cx cf n V dl b e h) a else W (kN cx cf n V dl c e h) a:=a9
@[simp]def ahZ (a:Nat) (f g:Code) (c b:iM) (h:H) (d:jH):W (kN cx cf n V dl (.cond (.tmp a) f g) ⟨c,b⟩ h) d=CK (if(V>>>a)&&&1=1 then mB c a else mB b a) cx cf n V dl f g ⟨c,b⟩ h d:=by
 rw[<-E6];apply propext;unfold CK;show W (Z (Env.get V ⟨c,b⟩ a) λi=>_) d↔_;rcases Env.get V ⟨c,b⟩ a with _|i
 simp[Z,U8,VT];simp[fw];cases i<;>simp[U8,VT];rename_i j;cases j<;>simp
@[simp]theorem ahX (b:Code) (e:Env) (h:H) (a:jH):W (kN cx cf n V dl (.loop b) e h) a=W (su (kN cx cf n V dl b) n e h) a:=rfl
@[simp]def ahW (e:Env) (h:H) (a:jH):W (kN cx cf n V dl .skip e h) a=a.n e h:=HA e h a
@[simp]def ahY (id:Nat) (e:Env) (h:H) (a:jH):W (kN cx cf n V dl (.exit id) e h) a=a.x id e h:=Kv id e h a
@[simp]def ajD (e:Env) (h:H) (a:jH):W (kN cx cf n V dl .ret e h) a=a.r e h:=agz e h a
end
end
section
noncomputable section
variable {cx:Ctx}{cf:jS}{V:Nat}{e:Env}{h:H}
attribute [simp] UC oP kv H.ny
@[simp]def aeQ (c b:iM) (a:Nat):iG cx V ⟨c,b⟩ (.tmp a)=if(V>>>a)&&&1=1 then mB c a else mB b a:=E6 c b a
theorem aeR (a:ak) (b:Int):iG cx V e (.const (.int a b))=G (.int a b):=rfl
theorem acM (a:Bool):iG cx V e (.const (.bool a))=G (.bool a):=rfl
theorem acL:iG cx V e (.const (.slice none 0 0))=G (.fg [] false):=rfl
attribute [simp] aeR acM acL
@[simp]theorem Tx (b:ByteArray):iG cx V e (.const (.string b))=G (.str (b.data.toList.map UInt8.toNat)):=by
 show(Z (D3 b.data.toList) λa=>some (T.str a))=_;have:∀a:List UInt8,D3 a=G (a.map UInt8.toNat):=by
  intro a;induction a with
  |nil=>rfl
  |cons f a c=>
   show(Z (jd f.toNat) λg=>Z (D3 a) λd=>some (g::d))=_;rw[c];simp
 rw[this];rfl
@[simp]theorem Q3 (a:aj):iG cx V e (.func a)=G (.func a []):=rfl
@[simp]theorem K9 (a:List ah):ud cx V e a=iN (iG cx V e) a:=rfl
@[simp] abbrev ka (a:iM) (b:Nat) (c:T):Prop:=mB a b=G c
@[simp] abbrev jg (b:iM) (c a:Nat):Prop:=mB b c=G (.ptr a 0 0 0)
@[simp] abbrev iS (a:iM) (c:Nat) (b:Int):Prop:=mB a c=G (.int .i64 b)
def mQ(a:Int):aa Nat:=if 0<=a then some a.toNat else none
@[simp]theorem acB (b:ak) (a:Int):uJ (.int b a)=mQ a:=by
 unfold mQ;cases a with
 |ofNat c=>rw[au Y];rfl
 |negSucc c=>rw[aq J];rfl
@[simp]theorem Fy (a:Nat):mQ (a:Int)=G a:=by unfold mQ;rw[au J];rfl
@[simp]def aat (a:Nat):mQ (no_index (OfNat.ofNat a):Int)=G a:=Fy a
def fZ{a:Int}(h:0<=a):mQ a=G a.toNat:=by unfold mQ;rw[au h]
@[simp]theorem ag8 (a:ah):j9 (.move a) cx V e h=val h (iG cx V e a):=rfl
@[simp]theorem acN (a:ah):j9 (.assign a) cx V e h=val h (iG cx V e a):=rfl
def pU(a:aa T)(b c:aa nO):aa nO:=Z a λa=>match a with| .bool d=>if d=true then b else c|_=>none
@[simp]theorem fI (c:Bool) (a b:aa nO):pU (some (.bool c)) a b=if c=true then a else b:=rfl
@[simp]def Xr (a b c:ah):j9 (.pick a b c) cx V e h=pU (iG cx V e a) (val h (iG cx V e b)) (val h (iG cx V e c)):=by
 show(Z (iG cx V e a) λa=>_)=_;unfold pU;rcases iG cx V e a with _|f
 rfl;cases f<;>first|rfl|(rename_i d;cases d<;>rfl)
@[simp]theorem abr (a:Ty):Ay cx a=(match a.u with
 | .array _ b=>Option.casesOn (cx.ty b) false λd=>(match d.u with| .int c=>HY c .u8|_=>false)
 |_=>false):=rfl
@[simp]def afh (b:ab):j9 (.alloc b) cx V e h=Z (cx.ty b) λa=>if Ay cx a=true then be (.ptr h.size 0 0 0) (h.cons (oO 1 true a.zero)) else be (.ptr h.size 0 0 0) (h.cons (oO a.size true [a.ls])):=by
 show(Z (cx.ty b) λa=>_)=_;rcases cx.ty b with _|a
 rfl;simp only[fw];cases Ay cx a<;>simp
@[simp]theorem Ry (b:Nat) (c:Bool) (a:List T):oO b c a=⟨b,0,0,c,false,a⟩:=rfl
@[simp]def aiW (d:ab) (b:ah):j9 (.box d b) cx V e h=Z (iG cx V e b) λa=>iX a.je (be (.ptr h.size 0 0 0) (h.cons ⟨a.cells.length,0,0,true,false,[a]⟩)):=by show(Z (iG cx V e b) λa=>iX a.je (kJ (h.new (λc=> .ptr c 0 0 0) (oO (oo a.cells) true [a]))))=_;simp
def Bn(cx:Ctx)(V:Nat)(e:Env):List (Nat×ah)->aa (List (Nat×T))
 | []=>some []
 |(b,d)::c=>Z (iG cx V e d) λa=>iX a.je (Z (Bn cx V e c) λf=>some ((b,a)::f))
@[simp]theorem aaQ:Bn cx V e []=G []:=rfl
@[simp]theorem K6 (a:Nat) (c:ah) (b:List (Nat×ah)):Bn cx V e ((a,c)::b)=Z (iG cx V e c) λd=>iX d.je (Z (Bn cx V e b) λf=>some ((a,d)::f)):=rfl
def Ga(a:List (Nat×ah)):partsOf cx V e a=Bn cx V e a:=by
 induction a with
 |nil=>rfl
 |cons i a g=>
  obtain⟨f,c⟩:=i;show(Z (Z (iG cx V e c) λb=>iX b.je (some (f,b))) λk=>Z (partsOf cx V e a) λj=>some (k::j))=_;rw[g,K6];rcases iG cx V e c with _|b;rfl;cases d:b.je<;>simp[d]
def G0(cx:Ctx)(c:List (Nat×ab)):List (Nat×T)->List T->aa (List T)
 | [],a=>some a
 |(g,d)::i,a=>Z (c[g]?) λb=>Z (cx.ty b.2) λj=>iX (decide (d.cells.length=j.size)) (Z (mR a b.1 d.cells) λf=>G0 cx c i f)
@[simp]theorem ac5 (b:List (Nat×ab)) (a:List T):G0 cx b [] a=G a:=rfl
@[simp]theorem Ob (a:List (Nat×ab)) (f:Nat) (b:T) (g:List (Nat×T)) (c:List T):G0 cx a ((f,b)::g) c=Z (a[f]?) λd=>Z (cx.ty d.2) λj=>iX (decide (b.cells.length=j.size)) (Z (mR c d.1 b.cells) λi=>G0 cx a g i):=rfl
def JX(g:List (Nat×ab)):∀(c:List (Nat×T)) (f:List T),o9 (λb=>Z (qN g b) λa=>Z (cx.ty a.2) λd=>some (a.1,d.size)) c f=G0 cx g c f:=by
 intro c;induction c with
 |nil=>intro f;rfl
 |cons l c m=>
  intro f;obtain⟨b,j⟩:=l;show(Z (Z (qN g b) λa=>Z (cx.ty a.2) λd=>some (a.1,d.size)) λi=>iX (Nat.beq (oo j.cells) i.2) (Z (mR f i.1 j.cells) λk=>o9 (λb=>Z (qN g b) λa=>Z (cx.ty a.2) λd=>some (a.1,d.size)) c k))=_;rw[Ob,m6];rcases g[b]? with _|a
  rfl;simp[fw];rcases cx.ty a.2 with _|d
  rfl;simp_all
def G6(b:Nat):List (Nat×T)->List T->aa (List T)
 | [],a=>some a
 |(f,c)::g,a=>iX (decide (c.cells.length=b)) (Z (mR a (f*b) c.cells) λd=>G6 b g d)
@[simp]theorem ac6 (b:Nat) (a:List T):G6 b [] a=G a:=rfl
@[simp]theorem abH (a d:Nat) (b:T) (f:List (Nat×T)) (c:List T):G6 a ((d,b)::f) c=iX (decide (b.cells.length=a)) (Z (mR c (d*a) b.cells) λg=>G6 a f g):=rfl
def H6(a:Nat):∀(b:List (Nat×T)) (c:List T),o9 (λd=>some (Nat.mul d a,a)) b c=G6 a b c:=by
 intro b;induction b with
 |nil=>intro c;rfl
 |cons i b j=>
  intro c;obtain⟨d,f⟩:=i;show(iX (Nat.beq (oo f.cells) a) (Z (mR c (Nat.mul d a) f.cells) λg=>o9 (λd=>some (Nat.mul d a,a)) b g))=_;simp_all
@[simp]def acE (c b:T) (a:List T):mR (c::a) 0 [b]=G (b::a):=by rw[wZ];simp
@[simp]def acD (f c d:T) (a b:List T):mR (f::a) 0 (c::d::b)=Z (mR a 0 (d::b)) λg=>some (c::g):=by rw[wZ,wZ];simp[aU,cV,List.take_zero,bJ];by_cases hl:b.length+1<=a.length;rw[au J,au J];simp;simp_all[aq]
@[simp]theorem aev (a:T) (b d:List T) (c:Nat):mR (a::b) (c+1) d=Z (mR b c d) λf=>some (a::f):=rfl
def Oz(cx:Ctx)(h:H)(b:Ty)(c:List (Nat×T)):aa nO:=match b.u with
 | .struct f=>Z (G0 cx f c b.zero) λa=>be (.agg a) h
 | .array _ d=>Z (cx.ty d) λg=>Z (G6 g.size c b.zero) λa=>be (.agg a) h
 |_=>none
@[simp]theorem adg (a:Ty) (c:List (Nat×T)):Oz cx h a c=(match a.u with
 | .struct f=>Z (G0 cx f c a.zero) λb=>be (.agg b) h
 | .array _ d=>Z (cx.ty d) λg=>Z (G6 g.size c a.zero) λb=>be (.agg b) h
 |_=>none):=rfl
@[simp]def afg (c:ab) (a:List (Nat×ah)):j9 (.build c a.toArray) cx V e h=Z (cx.ty c) λb=>Z (Bn cx V e a) λa=>Oz cx h b a:=by show(Z (cx.ty c) λb=>Z (partsOf cx V e a) λa=>_)=_;rw[Ga];congr 1;funext b;congr 1;funext a;unfold Oz;cases b.u<;>first|rfl|(simp only[JX,H6,BZ])
def DX(c:Nat):List (Nat×T)->List T->aa (List T)
 | [],a=>some a
 |(b,d)::f,a=>iX (decide (d.cells.length=c)) (iX (decide (b<a.length)) (DX c f (a.set b d)))
@[simp]theorem abM (b:Nat) (a:List T):DX b [] a=G a:=rfl
@[simp]theorem Me (c b:Nat) (d:T) (f:List (Nat×T)) (a:List T):DX c ((b,d)::f) a=iX (decide (d.cells.length=c)) (iX (decide (b<a.length)) (DX c f (a.set b d))):=rfl
def JW(c:Nat):∀(b:List (Nat×T)) (a:List T),tg c b a=DX c b a:=by
 intro b;induction b with
 |nil=>intro a;rfl
 |cons k b j=>
  intro a;obtain⟨d,f⟩:=k;show(iX (Nat.beq (oo f.cells) c) (Z (nH a d f) λg=>tg c b g))=_;simp[kQ,C2,j,Me,mv];by_cases i:d<a.length<;>simp[i]
@[simp]def Wh (f:ab) (b:Nat) (c:List (Nat×ah)):j9 (.buildSlice f b c.toArray) cx V e h=Z (cx.ty f) λd=>(match d.u with
 | .slice g=>Z (cx.ty g) λa=>Z (Bn cx V e c) λc=>iX (decide (1<=a.size))<|iX (decide (b*a.size<=65536)) (Z (DX a.size c (List.replicate b a.ls)) λi=>
  be (.arr h.size 0 0 b false) (h.cons ⟨a.size,0,0,true,false,i⟩))
 |_=>none):=by
 show(Z (cx.ty f) λd=>_)=_;congr 1;funext d;cases d.u<;>first|rfl|skip
 simp[KG,Ry,Yu,H.ny,tK,JW,Ga]
@[simp]theorem ag9 (b:ab) (a:ah):j9 (.load b a) cx V e h=Z (cx.ty b) λc=>Z (iG cx V e a) λa=>val h (h.load c a):=rfl
def ldB(a:jO)(c d f:Nat)(g:Ty):aa T:=iX (decide (a.ep=c)) (if a.it=true then none else Z (a.im[d]?) λe=>Z (lJ f e.cells) λb=>lI g b)
@[simp]def abl (l b m:Nat) (k f:Bool) (c:List T) (a d g:Nat) (i:Ty):ldB ⟨l,b,m,k,f,c⟩ a d g i=iX (decide (b=a)) (if f=true then none else Z (c[d]?) λe=>Z (lJ g e.cells) λj=>lI i j):=a9
@[simp]def abk (j:Ty) (b c f i:Nat):h.load j (.ptr b c f i)=Z (h.get b) λa=>ldB a c f i j:=by
 show(Z (Z (h.get b) λa=>jO.casesOn a λ_ d _ _ g l=>iX (Nat.beq d c) (Bool.casesOn g (qN l f) none)) λe=>Z (lJ i e.cells) λk=>lI j k)=_;rcases h.get b with _|a
 rfl;obtain⟨o,d,p,n,g,m⟩:=a;simp[fw,abl,C2,m6];cases decide (d=c)<;>cases g<;>simp
def KM(h:H)(c:Nat)(a:jO)(f b g:Nat)(i:List T):aa H:=iX (decide (a.ep=f)) (if a.it=true then none else Z (a.im[b]?) λe=>Z (mT e g i) λd=>some (fQ h c ⟨a.sz,a.ep,a.ver+1,a.exact,false,a.im.set b d⟩))
@[simp]def aav (d k a l:Nat) (g i:Bool) (b:List T) (f c j:Nat) (m:List T):KM h d ⟨k,a,l,g,i,b⟩ f c j m=iX (decide (a=f)) (if i=true then none else Z (b[c]?) λe=>Z (mT e j m) λn=>some (fQ h d ⟨k,a,l+1,g,false,b.set c n⟩)):=a9
def zj{a:Nat}{m:jO}(k:h.get a=G m)(d:jO):h.put a d=G (fQ h a d):=by
 have:∃c,h.put a d=G c:=by
  obtain⟨b,f,g⟩:=h;rw[H.get_eq]at k;by_cases j:a<b;rw[au j]at k;have hl:b-1-a<g.length:=by
   grind
  show∃c,(iX (Nat.blt a b) (Z (nH g (Nat.sub (Nat.sub b 1) a) d) λi=> @Bool.rec (λ_=>aa H) (some ⟨b,f,i⟩) (some ⟨b,a,i⟩) (Nat.blt a f)))=G c;rw[show Nat.blt a b=true from aQ▸j,iP,mv,au J,fw];cases Nat.blt a f<;>exact⟨_,rfl⟩
  grind
 obtain⟨c,l⟩:=this;unfold fQ;rw[l];rfl
@[simp]theorem agZ (l:Ty) (a i b g:Nat) (c:T):h.store l (.ptr a i b g) c=iX (decide (c.cells.length=l.size)) (Z (h.get a) λd=>KM h a d i b g c.cells):=by
 show(iX (Nat.beq (oo c.cells) l.size) (Z (h.get a) λd=>jO.casesOn d λo j p exact k n=>
  iX (Nat.beq j i) (@Bool.rec (λ_=>aa H) (Z (qN n b) λe=>Z (mT e g c.cells) λm=>Z (nH n b m) λf=>
   Z (jd (Nat.succ p)) λq=>h.put a ⟨o,j,q,exact,false,f⟩) none k)))=_
 simp[kQ,C2];rcases t:h.get a with _|d
 rfl;obtain⟨o,j,p,r,k,f⟩:=d;simp[fw,aav];congr 1;congr 1;cases k;simp[dj];rcases s:f[b]? with _|e
 rfl;simp[fw];rcases mT e g c.cells with _|m
 rfl;have u:b<f.length:=by
  grind
 simp_all[zj,mv,fw];rfl
@[simp]theorem afa (b:ab) (a d:ah):j9 (.store b a d) cx V e h=Z (cx.ty b) λg=>Z (iG cx V e a) λa=>Z (iG cx V e d) λc=>iX c.je (Z (h.store g a c) λf=>be .undef f):=rfl
def ncW(h:H)(a:T):aa nO:=match a with| .ptr .. | .kH _| .func .. =>be a h|_=>none
theorem aha (a b c d:Nat):ncW h (.ptr a b c d)=be (.ptr a b c d) h:=rfl
theorem ZJ (a:ah):j9 (.nilCheck a) cx V e h=Z (iG cx V e a) λb=>ncW h b:=rfl
def acQ (d f:ah) (b:ak) (c:Int) (a:T):zu d f (.int b c) a=true:=a9
def acP (c d:ah) (b:List Nat) (a:T):zu c d (.str b) a=true:=a9
def abe (c d:ah) (b:Bool) (a:T):zu c d (.bool b) a=true:=a9
attribute [simp] aha ZJ acQ acP abe
@[simp]def aiV (g j:ab) (c d:ah):j9 (.binOp .eql g c d j) cx V e h=Z (cx.ty g) λi=>Z (iG cx V e c) λa=>Z (iG cx V e d) λb=>iX (zu c d a b) (Z (I2 cx i a b) λf=>be (.bool f) h):=by show(Z (cx.ty g) λi=>Z (iG cx V e c) λa=>Z (iG cx V e d) λb=>iX (zu c d a b) (Z (I2 cx i a b) λf=>val h (AR f)))=_;simp
@[simp]def aiJ (g j:ab) (c d:ah):j9 (.binOp .neq g c d j) cx V e h=Z (cx.ty g) λi=>Z (iG cx V e c) λa=>Z (iG cx V e d) λb=>iX (zu c d a b) (Z (I2 cx i a b) λf=>be (.bool !f) h):=by show(Z (cx.ty g) λi=>Z (iG cx V e c) λa=>Z (iG cx V e d) λb=>iX (zu c d a b) (Z (I2 cx i a b) λf=>val h (AR (!f))))=_;simp
@[simp]def ahx (d:Ty) (a:ak) (b c:Int) (f:d.u= .int a):I2 cx d (.int a b) (.int a c)=G (decide (b=c)):=by unfold I2;rw[f];simp
@[simp]def ahw (c:Ty) (a b:List Nat) (d:c.u= .str):I2 cx c (.str a) (.str b)=G (decide (a=b)):=by unfold I2;rw[d];simp
@[simp]def af9 (c:Ty) (a b:Bool) (d:c.u= .bool):I2 cx c (.bool a) (.bool b)=G (a==b):=by unfold I2;rw[d];simp
def zJ(c:BinOp)(d f:aa T)(h:H):aa nO:=Z d λa=>Z f λb=>val h (binop c a b)
theorem afP (c:BinOp) (a b:T):zJ c (some a) (some b) h=val h (binop c a b):=rfl
theorem aiY (c d:ab) (a b:ah):j9 (.binOp .add c a b d) cx V e h=zJ .add (iG cx V e a) (iG cx V e b) h:=rfl
theorem aiG (c d:ab) (a b:ah):j9 (.binOp .sub c a b d) cx V e h=zJ .sub (iG cx V e a) (iG cx V e b) h:=rfl
theorem aiK (c d:ab) (a b:ah):j9 (.binOp .mul c a b d) cx V e h=zJ .mul (iG cx V e a) (iG cx V e b) h:=rfl
theorem aiI (c d:ab) (a b:ah):j9 (.binOp .quo c a b d) cx V e h=zJ .quo (iG cx V e a) (iG cx V e b) h:=rfl
theorem aiH (c d:ab) (a b:ah):j9 (.binOp .rem c a b d) cx V e h=zJ .rem (iG cx V e a) (iG cx V e b) h:=rfl
theorem aiQ (c d:ab) (a b:ah):j9 (.binOp .lss c a b d) cx V e h=zJ .lss (iG cx V e a) (iG cx V e b) h:=rfl
theorem aiR (c d:ab) (a b:ah):j9 (.binOp .leq c a b d) cx V e h=zJ .leq (iG cx V e a) (iG cx V e b) h:=rfl
theorem aiT (c d:ab) (a b:ah):j9 (.binOp .gtr c a b d) cx V e h=zJ .gtr (iG cx V e a) (iG cx V e b) h:=rfl
theorem aiU (c d:ab) (a b:ah):j9 (.binOp .geq c a b d) cx V e h=zJ .geq (iG cx V e a) (iG cx V e b) h:=rfl
theorem ajZ (a:UnOp) (d:ab) (b:ah):j9 (.unOp a d b) cx V e h=Z (iG cx V e b) λc=>val h (unop a c):=rfl
theorem Xv (c:ab) (a:ah) (b:Nat):j9 (.fieldAddr c a b) cx V e h=Z (AA cx c b) λd=>Z (iG cx V e a) λa=>faV d.1 h a:=rfl
attribute [simp] afP aiY aiG aiK aiI aiH aiQ aiR aiT aiU ajZ Xv
@[simp]def abI (c:ab) (a:Nat):AA cx c a=Z (cx.ty c) λd=>(match d.u with| .struct b=>b[a]? |_=>none):=by show(Z (cx.ty c) λd=>match d.u with| .struct b=>qN b a|_=>none)=_;simp
def fdW(h:H)(off:Nat)(c:Ty)(d:T):aa nO:=match d with| .agg a=>Z (lJ off a) λb=>val h (lI c b)|_=>none
@[simp]theorem ahu (off:Nat) (b:Ty) (a:List T):fdW h off b (.agg a)=Z (lJ off a) λc=>val h (lI b c):=rfl
@[simp]theorem afd (d:ab) (a:ah) (b:Nat):j9 (.field d a b) cx V e h=Z (AA cx d b) λc=>Z (cx.ty c.2) λf=>Z (iG cx V e a) λa=>fdW h c.1 f a:=rfl
def ixW(cx:Ctx)(h:H)(g:Ty)(d:T)(c:Nat):aa nO:=match g.u with
 | .slice a=>Z (cx.ty a) λb=>nC h b d c
 | .array f a=>Z (cx.ty a) λb=>pX h f b d c
 |_=>none
@[simp]theorem aje (f:Ty) (d:T) (b:Nat):ixW cx h f d b=(match f.u with
 | .slice a=>Z (cx.ty a) λc=>nC h c d b
 | .array g a=>Z (cx.ty a) λc=>pX h g c d b
 |_=>none):=rfl
@[simp]theorem Xu (c:ab) (b a:ah):j9 (.indexAddr c b a) cx V e h=Z (cx.ty c) λf=>Z (iG cx V e b) λb=>Z (iG cx V e a) λa=>Z (uJ a) λd=>ixW cx h f b d:=rfl
@[simp]def ac2 (d:Ty) (b:List T) (f:Bool) (c:Nat):nC h d (.fg b f) c=Z (b[c]?) λa=>iX (decide (a.cells.length=d.size)) (be (.kH a.cells) h):=by show(Z (qN b c) λa=>iX (Nat.beq (oo a.cells) d.size) (some (nO.val (.kH a.cells) h)))=_;simp
@[simp]def UO (i:Ty) (a c g f:Nat) (j:Bool) (d:Nat):nC h i (.arr a c g f j) d=iX (decide (d<f)) (Z (h.get a) λb=>iX (decide (b.sz=i.size))<|iX (decide (b.ep=c)) (be (.ptr a c (g+d) 0) h)):=by show(iX (Nat.blt d f) (Z (h.get a) λb=>iX (Nat.beq b.sz i.size)<|iX (Nat.beq b.ep c) (Z (jd (Nat.add g d)) λk=>some (nO.val (.ptr a c k 0) h))))=_;simp
def icW(cx:Ctx)(h:H)(l:Ty)(c:T)(a:Nat):aa nO:=match l.u with
 | .str=>(match c with| .str k=>Z (k[a]?) λd=>be (.int .u8 d) h|_=>none)
 | .array i g=>(match c with
  | .agg f=>Z (cx.ty g) λb=>iX (decide (a<i)) (Z (lJ (a*b.size) f) λj=>val h (lI b j))
  |_=>none)
 |_=>none
@[simp]theorem UP (d:Ty) (b:T) (a:Nat):icW cx h d b a=(match d.u with
 | .str=>(match b with| .str l=>Z (l[a]?) λf=>be (.int .u8 f) h|_=>none)
 | .array j i=>(match b with
  | .agg g=>Z (cx.ty i) λc=>iX (decide (a<j)) (Z (lJ (a*c.size) g) λk=>val h (lI c k))
  |_=>none)
 |_=>none):=rfl
@[simp]theorem afc (d:ab) (a b:ah):j9 (.index d a b) cx V e h=Z (cx.ty d) λf=>Z (iG cx V e a) λa=>Z (iG cx V e b) λb=>Z (uJ b) λc=>icW cx h f a c:=by
 show(Z (cx.ty d) λf=>Z (iG cx V e a) λa=>Z (iG cx V e b) λb=>Z (uJ b) λc=>match f.u with
  | .str=>(match a with| .str n=>Z (qN n c) λi=>val h (some (.int .u8 (.ofNat i)))|_=>none)
  | .array l k=>(match a with
   | .agg j=>Z (cx.ty k) λg=>iX (Nat.blt c l) (Z (lJ (Nat.mul c g.size) j) λm=>val h (lI g m))
   |_=>none)
  |_=>none)=_
 simp only[m6,Yt,BZ];rfl
@[simp]theorem aba (b:ah) (a:Nat):j9 (.extract b a) cx V e h=Z (iG cx V e b) λc=>exV h c a:=rfl
@[simp]def aff (b:aj) (a:List ah) (f:af ab):j9 (.call ⟨.value (.func b),a.toArray,f⟩) cx V e h=Z (iN (iG cx V e) a) λc=>some (.call b c):=by
 show(Z (ud cx V e a) λa=>Z (some (T.func b [])) λg=>match g with
  | .func b d=>Z (D7 a d) λc=>some (nO.call b c)
  |_=>none)=_
 simp
def agh(c:List T)(d:T):aa nO:=match d with| .func b a=>some (.call b (c++a))|_=>none
@[simp]theorem ac9 (c:List T) (b:aj) (a:List T):agh c (.func b a)=G (.call b (c++a)):=rfl
@[simp]theorem afe (c:Tmp) (a:List ah) (i:af ab):j9 (.call ⟨.value (.tmp c),a.toArray,i⟩) cx V e h=Z (iN (iG cx V e) a) λb=>Z (iG cx V e (.tmp c)) λd=>agh b d:=by
 show(Z (ud cx V e a) λa=>Z (iG cx V e (.tmp c)) λd=>match d with
  | .func g f=>Z (D7 a f) λb=>some (nO.call g b)
  |_=>none)=_
 simp[K9,sd,fw];rfl
@[simp]theorem aiS (a:List ah) (b:ab):j9 (.call ⟨.builtin .len,a.toArray,#[b]⟩) cx V e h=Z (iN (iG cx V e) a) λc=>(match c with| [d]=>R7 cx h [b] d|_=>none):=rfl
def HX(cx:Ctx)(h:H)(g:Ty)(a:T):aa nO:=match g.u with
 | .str=>(match a with| .str f=>be (.int .i64 f.length) h|_=>none)
 | .slice _=>(match a with
  | .fg b _=>be (.int .i64 b.length) h
  | .jf=>be (.int .i64 0) h
  | .arr _ _ _ c _=>be (.int .i64 c) h
  |_=>none)
 | .array d _=>be (.int .i64 d) h
 |_=>none
def E4(b:Ty)(a:T):HX cx h b a=(match b.u with
 | .str=>(match a with| .str g=>be (.int .i64 g.length) h|_=>none)
 | .slice _=>(match a with
  | .fg c _=>be (.int .i64 c.length) h
  | .jf=>be (.int .i64 0) h
  | .arr _ _ _ d _=>be (.int .i64 d) h
  |_=>none)
 | .array f _=>be (.int .i64 f) h
 |_=>none):=rfl
@[simp]def afs (b:Ty) (a:List Nat) (c:b.u= .str):HX cx h b (.str a)=be (.int .i64 a.length) h:=by rw[E4,c]
@[simp]def acW (b:Ty) (a:List T) (c:Bool) (f:ab) (d:b.u= .slice f):HX cx h b (.fg a c)=be (.int .i64 a.length) h:=by rw[E4,d]
@[simp]def acV (a:Ty) (c:ab) (b:a.u= .slice c):HX cx h a .jf=be (.int .i64 0) h:=by rw[E4,b]
@[simp]def afu (b:Ty) (c d i a:Nat) (f:Bool) (j:ab) (g:b.u= .slice j):HX cx h b (.arr c d i a f)=be (.int .i64 a) h:=by rw[E4,g]
@[simp]def ahS (a:ab) (c:T):R7 cx h [a] c=Z (cx.ty a) λb=>HX cx h b c:=by show(Z (qN [a] 0) λa=>Z (cx.ty a) λb=>_)=_;simp only[m6,List.getElem?_cons_zero,fw];congr 1;funext b;unfold HX;cases b.u<;>first|rfl|(cases c<;>first|rfl|(simp;try rfl))
@[simp]theorem aiN (a:List ah) (b:af ab):j9 (.call ⟨.builtin .min,a.toArray,b⟩) cx V e h=Z (iN (iG cx V e) a) λc=>nG .min cx h b.toList c:=rfl
@[simp]theorem aiO (a:List ah) (b:af ab):j9 (.call ⟨.builtin .max,a.toArray,b⟩) cx V e h=Z (iN (iG cx V e) a) λc=>nG .max cx h b.toList c:=rfl
@[simp]def ai0 (f:List ab) (a:ak) (b c:Int):nG .min cx h f [.int a b,.int a c]=be (.int a (min b c)) h:=by show val h (iX (HY a a) (Bi a (@Bool.rec (λ_=>Int) b c (PB c b))))=_;rw[vL,iP,rO,Av];simp[BZ,aw,nO.val.injEq,T.int.injEq,true_and,and_true];by_cases d:c<b;rw[bK d];grind;rw[bj d];grind
@[simp]def ai1 (f:List ab) (a:ak) (b c:Int):nG .max cx h f [.int a b,.int a c]=be (.int a (max b c)) h:=by show val h (iX (HY a a) (Bi a (@Bool.rec (λ_=>Int) b c (PB b c))))=_;rw[vL,iP,rO,Av];simp[BZ,aw,nO.val.injEq,T.int.injEq,true_and,and_true];by_cases d:b<c;rw[bK d];grind;rw[bj d];grind
end
end
section
abbrev hE:H:=⟨0,0,[]⟩
structure Ea(P:ai)(cx:Ctx)(f:aj)(fn:Func)(V:Nat)(dl:DL):Prop where
 at_:P.funcs[f]? =G fn
 ok:Cy ⟨fn,V,false,none⟩
 dr:pG dl (fn.body.getD .skip)
def oz(a:iM):Nat->List T->Prop
 |_,[]=>True
 |i,b::c=>mB a i=G b/\oz a (i+1) c
@[simp]theorem acA (b:iM) (a:Nat):oz b a []=True:=rfl
@[simp]theorem aac (b:iM) (a:Nat) (c:T) (d:List T):oz b a (c::d)=(mB b a=G c/\oz b (a+1) d):=rfl
def o7(V:Nat):∀(d a:Nat) (f:List T),f.length<=d->∃b,oX V d a f=G b/\(∀c,c<a->mB b c=none)/\oz b a f:=by
 intro d;induction d with
 |zero=>
  intro a f hl;have:f=[]:=bC J;subst this;exact⟨.nil,rfl,λ_ _=>rfl,trivial⟩
 |succ d q=>
  intro a f hl;have s:∀(e:List T) (b:iM) (c:Nat) (l:T) (g:Nat),c<g->oz b g e->oz (.cons c l b) g e:=by
   intro e;induction e with
   |nil=>simp
   |cons k e r=>
    intro b c l g t o;exact⟨by rw[oP,aq J];exact o.1,r b c l (g+1) J o.2⟩
  rcases f with _|⟨k,e⟩;have⟨b,i,m,n⟩:=q (a+1) [] Y;show∃b,(Z (jd (Nat.succ a)) λj=> @Bool.rec (λ_=>aa iM) (oX V d j []) (Z (oX V d j []) λh=>some (.cons a .undef h)) (lO V a))=G b/\_;rw[jx,fw];cases lO V a;exact⟨b,i,λc p=>m c J,trivial⟩;refine⟨.cons a .undef b,?_,λc p=>?_,trivial⟩;show(Z (oX V d (a+1) []) λh=>some (iM.cons a .undef h))=_;rw[i];rfl;rw[oP,aq J];grind;have⟨b,i,m,n⟩:=q (a+1) e c5;refine⟨.cons a k b,?_,λc p=>?_,?_,s _ _ _ _ _ J n⟩;show(Z (jd (Nat.succ a)) λj=>Z (oX V d j e) λh=>some (iM.cons a k h))=_;rw[jx,fw,i];rfl;rw[oP,aq J];grind;simp
def D9(cx:Ctx)(V:Nat)(d:List ResultVar)(e:iM)(b:H)(c:List T->Prop):Prop:=∃a,pS cx V ⟨e,.nil⟩ b d=G a/\c a
section
variable {P:ai}{cx:Ctx}{cf:jS}{V:Nat}
@[simp]def agD (e:iM) (c:H) (b:List T->Prop):D9 cx V [] e c b=b []:=by
 apply propext;constructor;rintro⟨d,hl,a⟩;have hl:some []=G d:=hl
 grind
 exact λa=>⟨[],rfl,a⟩
def WV(c:aa T)(b:T->Prop):Prop:=∃a,c=G a/\b a
@[simp]def ah0 (b:T) (d:T->Prop):WV (some b) d=d b:=by apply propext;constructor;rintro⟨e,c,a⟩;cases c;exact a;exact λa=>⟨b,rfl,a⟩
def Jd(e:ResultVar)(f:List ResultVar)(a:iM)(b:H)(d:List T->Prop):D9 cx V (e::f) a b d=
 WV (ResultVar.casesOn e (λc=>Env.get V ⟨a,.nil⟩ c) (λg c=>Z (Env.get V ⟨a,.nil⟩ g) λi=>Z (cx.ty c) λj=>b.load j i)) λk=>D9 cx V f a b λh=>d (k::h):=by
 grind [pS,WV,D9,kv,aw,eQ,fw]
@[simp]def agC (e:Tmp) (d:List ResultVar) (a:iM) (b:H) (c:List T->Prop):D9 cx V (.tmp e::d) a b c=WV (Env.get V ⟨a,.nil⟩ e) λg=>D9 cx V d a b λf=>c (g::f):=Jd _ d a b c
@[simp]def adn (e:Tmp) (f:ab) (d:List ResultVar) (b:iM) (a:H) (c:List T->Prop):D9 cx V (.cell e f::d) b a c=WV (Z (Env.get V ⟨b,.nil⟩ e) λh=>Z (cx.ty f) λi=>a.load i h) λj=>D9 cx V d b a λg=>c (j::g):=Jd _ d b a c
def AJ(cx:Ctx)(V:Nat)(e:List ResultVar)(d:List T->H->Prop):jH:=
 ⟨λb a=>D9 cx V e b.vars a λc=>d c a,λ_ _ _=>False,λb a=>D9 cx V e b.vars a λc=>d c a⟩
theorem ajd (d:List ResultVar) (c:List T->H->Prop) (b:Env) (a:H):(AJ cx V d c).n b a=D9 cx V d b.vars a λe=>c e a:=rfl
theorem ajc (d:List ResultVar) (c:List T->H->Prop) (b:Env) (a:H):(AJ cx V d c).r b a=D9 cx V d b.vars a λe=>c e a:=rfl
theorem ajb (e:List ResultVar) (d:List T->H->Prop) (c:Nat) (a:Env) (b:H):(AJ cx V e d).x c a b=False:=rfl
attribute [simp] ajd ajc ajb
def Hz{g:Out}{h:List ResultVar}{f:List T->H->Prop}(i:W g (AJ cx V h f)):∃c b a,g=G (c,b,a)/\(c= .normal\/c= .ret)/\D9 cx V h b.vars a λj=>f j a:=by
 obtain⟨c,b,a,d,e⟩:=i;cases c with
 |normal=>exact⟨_,b,a,d,.inl rfl,e⟩
 |exit k=>simp_all
 |ret=>exact⟨_,b,a,d,.inr rfl,e⟩
def rL{h:List ResultVar}{a:Env}{g:H}{i:List T}(hl:pS cx V ⟨a.vars,.nil⟩ g h=G i):pS cx V a g h=G i:=by
 unfold pS at*
 induction h generalizing i with
 |nil=>exact hl
 |cons l h r=>
  rw[kv]at hl|-;have⟨c,d,hl⟩:=eQ.1 hl;have⟨s,p,hl⟩:=eQ.1 hl;simp[aw]at hl;subst hl;have m:∀j c,Env.get V ⟨a.vars,.nil⟩ j=G c->Env.get V a j=G c:=by
   intro j c o;obtain⟨u,t⟩:=a;rw[E6]at o|-;simp_all[IQ]
  have q:(@ResultVar.rec (λ_=>aa T) (λb=>Env.get V a b) (λf b=>Z (Env.get V a f) λe=>Z (cx.ty b) λk=>g.load k e) l)=G c:=by
   cases l with
   |tmp b=>grind
   |cell f b=>
    have d:=d;have⟨e,n,d⟩:=eQ.1 d;show(Z (Env.get V a f) λe=>Z (cx.ty b) λk=>g.load k e)=G c;rw[m f e n];exact d
  grind
end
def VW{l:Env->H->Out}(e:Nat)(g:Nat->iM->H->Prop){k:jH}
 (p:∀a d b,a<=e->g a d b->W (l ⟨d,.nil⟩ b) (By (λc b=>c.tmps= .nil/\a<e/\g (a+1) c.vars b) k)) {j:Nat} (r:e<j) {a:Nat} (i:a<=e) {d:iM} {b:H} (h:g a d b):W (su l j ⟨d,.nil⟩ b) k:=by
 refine HB (σ:=Nat) (I:=λa c b=>a<=e/\c.tmps= .nil/\g a c.vars b) (m:=λa=>e-a) ?_ j a _ _ J ⟨i,rfl,h⟩;rintro a ⟨d,t⟩ b ⟨i,ht,h⟩;subst ht;have⟨n,c,o,q,f⟩:=p a d b i h;refine⟨n,c,o,q,?_⟩;cases n with
 |normal=>exact⟨a+1,iV f.2.1,iV f.2.1,f.1,f.2.2⟩
 |exit s=>exact f
 |ret=>exact f
@[simp]def akh:Hp hE=True:=by simp[Hp]
@[simp]def agJ (b:H) (c:jO):Hp (b.cons c)=Hp b:=by apply propext;constructor;intro a;unfold Hp at*;simp[H.cons]at a;exact a;exact λa=>YK a c
end
section
mutual
def cn:T->T
 | .fg b c=>(match b with| []=> .jf|e::b=> .fg (cnL (e::b)) false)
 | .agg a=> .agg (cnL a)
 | .tuple a=> .tuple (cnL a)
 |v=>v
def cnL:List T->List T
 | []=>[]
 |x::a=>cn x::cnL a
end
def Kd:∀a:List T,cnL a=a.map cn
 | []=>by rw[cnL];rfl
 |x::b=>by rw[cnL,Kd b];rfl
def qr(a:List T)(b:Bool):cn (.fg a b)=sl (a.map cn):=by rcases a with _|⟨c,a⟩;rw[cn];rfl;rw[cn,Kd];rfl
def yl(a:List T):cn (.agg a)= .agg (a.map cn):=by rw[cn,Kd]
def xQ(a:List T):cn (.tuple a)= .tuple (a.map cn):=by rw[cn,Kd]
@[simp]def Vc:cn .undef= .undef:=by simp[cn]
@[simp]def P8 (a:Bool):cn (.bool a)=(.bool a):=by simp[cn]
@[simp]def Kc (a:ak) (b:Int):cn (.int a b)=(.int a b):=by simp[cn]
@[simp]def Kb (a:List Nat):cn (.str a)=(.str a):=by simp[cn]
@[simp]def P5:cn .mn= .mn:=by simp[cn]
@[simp]def ab3 (a b c d:Nat):cn (.ptr a b c d)=(.ptr a b c d):=by simp[cn]
@[simp]def P3 (a:List T):cn (.kH a)=(.kH a):=by simp[cn]
@[simp]def Mj:cn .jf= .jf:=by simp[cn]
@[simp]def ab5 (a b e d:Nat) (c:Bool):cn (.arr a b e d c)=(.arr a b e d c):=by simp[cn]
@[simp]def Yf (b:aj) (a:List T):cn (.func b a)=(.func b a):=by simp[cn]
@[simp]def P7:cn .mF= .mF:=by simp[cn]
@[simp]def P6:cn .mN= .mN:=by simp[cn]
@[simp]def Ve (a:ab) (b:T):cn (.iface a b)=(.iface a b):=by simp[cn]
@[simp]def Ye (a:Nat):cn (.iter a)=(.iter a):=by simp[cn]
@[simp]def ab4 (a:Nat):cn (.map a)=(.map a):=by simp[cn]
@[simp]def Yd:cn .pV= .pV:=by simp[cn]
def I4(a:T):(cn a).scalar=a.scalar:=by
 cases a with
 |fg c d=>rw[qr];cases c<;>rfl
 |agg b=>rw[yl];rfl
 |tuple b=>rw[xQ];rfl
 |_=>simp
theorem Ml(a:T):(cn a).cells=a.cells.map cn:=by
 cases a with
 |fg c d=>rw[qr];cases c<;>(show [_]=[_];rw[qr])
 |agg b=>rw[yl];rfl
 |tuple b=>rw[xQ];show [_]=[_];rw[xQ]
 |_=>simp[T.cells]
def Yg(a:List T):iy (a.map cn)=(iy a).map cn:=by
 induction a with
 |nil=>rfl
 |cons b a c=>
  grind [iy,Ml]
def ma.cn{a:T}(b:ma a):ma (cn a):=by
 induction b with
 |fg d l _ g=>
  rw[qr];rcases d with _|⟨k,d⟩
  exact .jf;exact .fg _ _ (λa f=>by
   grind)
 |agg c _ g=>
  rw[yl];exact .agg _ (λa f=>by
   grind)
 |kH c b=>rw[P3];exact .kH c b
 |bool e=>rw[P8];exact .bool e
 |int h i=>rw[Kc];exact .int h i
 |str j=>rw[Kb];exact .str j
 |mn=>rw[P5];exact .mn
 |jf=>rw[Mj];exact .jf
 |mF=>rw[P7];exact .mF
 |mN=>rw[P6];exact .mN
def iz.cn{hp:af Obj}{μ:Mu}{b:T}{o:am}(a:iz hp μ b o):iz hp μ (cn b) o:=by
 induction a with
 |qy u c=>rw[qr];exact .jf c 0
 |fg i j u r off s Q arr n fz x w hl R S h l hr m=>
  rw[qr];show iz hp μ (.fg (Go.TI.cn i::j.map Go.TI.cn) false) _;have B:iy (Go.TI.cn i::j.map Go.TI.cn)=(iy (i::j)).map Go.TI.cn:=Yg (i::j);have:=iz.fg (hp:=hp) (μ:=μ) (Go.TI.cn i) (j.map Go.TI.cn) false r off s Q arr n fz x w c5 Y (λb e=>?_) ?_ ?_ ?_
  grind
  have e:b∈(i::j).map Go.TI.cn:=e;obtain⟨q,p,rfl⟩:=List.mem_map.1 e;rw[Ml,aL];grind;rw[B,aL];exact h;intro b e;rw[B]at e;obtain⟨q,p,rfl⟩:=List.mem_map.1 e;exact⟨by rw[I4];exact(l q p).1,(l q p).2.cn⟩
  grind
 |agg A k h l hr m=>
  rw[yl];refine .agg _ k c5 (λb e=>?_) λz b C=>?_;obtain⟨q,p,rfl⟩:=List.mem_map.1 e;rw[I4];grind
  grind
 |tuple U k h hr m=>
  rw[xQ];refine .tuple _ k c5 λz b C=>?_;rw[bw]at C
  grind
 |kH A r off arr n fz x w h l hr m=>rw[P3];exact .kH A r off arr n fz x w h l hr
 |undef=>rw[Vc];exact .undef
 |bool d=>rw[P8];exact .bool d
 |int z L=>rw[Kc];exact .int z L
 |str O a=>rw[Kb];exact .str O a
 |mn=>rw[P5];exact .mn
 |ptr d t y I f c g v H=>rw[ab3];exact .ptr d t y I f c g v H
 |jf c s=>rw[Mj];exact .jf c s
 |arr d t N K u f c E g v hl a=>rw[ab5];exact .arr d t N K u f c E g v hl a
 |func F D k h hr m=>rw[Yf];exact .func F D k h hr
 |mF=>rw[P7];exact .mF
 |mN=>rw[P6];exact .mN
 |iface n b o a m=>rw[Ve];exact .iface n b o a
 |iter d f c g a=>rw[Ye];exact .iter d f c g a
 |map d f y g a=>rw[ab4];exact .map d f y g a
 |pV=>rw[Yd];exact .pV
def ja.cn{f:af Obj}{h:Mu}{c:List T}{d:List am}(e:ja f h c d):ja f h (c.map Go.TI.cn) d:=by
 refine⟨iC e.1,λg j a=>?_⟩;rw[bw]at a;rcases b:c[g]? with _|i
 rw[b]at a;grind;rw[b]at a;simp at a;subst a;exact(e.2 g i b).cn
mutual
def nI:T->Bool
 | .bool _| .int _ _| .str _| .mn| .mF| .mN| .pV| .jf=>true
 | .agg a=>rP a
 | .tuple a=>rP a
 |_=>false
def rP:List T->Bool
 | []=>true
 |x::a=>nI x&&rP a
end
def Eo{a:List T}(c:rP a):∀b∈a,nI b=true:=by
 induction a with
 |nil=>simp
 |cons f a e=>
  intro b d;rw[rP,aC]at c
  grind
def iz.plain{n o:af Obj}{r s:Mu}{a:T}{i:am}(f:iz n r a i)(c:nI a):iz o s a i:=by
 induction f with
 |bool k=>exact .bool k
 |int d p=>exact .int d p
 |str q f=>exact .str q f
 |mn=>exact .mn
 |mF=>exact .mF
 |mN=>exact .mN
 |pV=>exact .pV
 |jf j l=>exact .jf j l
 |agg t e g m hr h=>
  rw[nI]at c;exact .agg _ e g m λd a b=>h d a b (Eo c a (aB b))
 |tuple u e g hr h=>
  rw[nI]at c;exact .tuple _ e g λd a b=>h d a b (Eo c a (aB b))
 |_=>simp[nI]at c
section
variable {P:ai}{cx:Ctx}
def Sd{b:Mu}{a:Nat}:qt (pH 0 b) a↔b.qJ a:=by constructor;rintro(⟨e,d,c,_⟩|hr);exact absurd (lK c).1 J;exact hr;exact λhr=> .inr hr
def QZ{z:aj}{o k:List T}{w:T}{s:H}(F:ni P cx z (k.map cn) w)(u:iN (mw s 0) o=G k)(hr:nI w):tI P cx ⟨z,o,s,w,s⟩:=by
 intro ae d f x b B;have E:ja d.heap (pH 0 f) k x.toList:=by
  have A:jw (λj W=>∀p,iz d.heap f j p->iz d.heap (pH 0 f) W p) o k:=jw.map (λn m y R p I=>uE b I R) u;refine⟨A.length▸B.1,λS j L=>?_⟩;have⟨n,m,u⟩:=A.get L;exact u _ (B.2 S n m)
 have V:St cx d.heap.size d.heap (pH 0 f) hE:=by
  refine⟨rfl,ay _,λh e c=>absurd (lK c).1 J,λh Z e X c=>absurd (lK c).1 J,λh e c=>absurd (lK c).1 J,λh e c=>absurd (lK c).1 J,λa hr=>b.uM a hr,λr q v=>?_⟩;have:=b.CH r q v;refine this.cut ?_;have⟨_,_,_,_,_,_,_,_,_,O,_⟩:=this.oq;exact .kH _ λj Q=>(O j Q).2.low 0
 refine(F d.heap.size d (pH 0 f) x hE V E.cn).mono λj D ⟨⟨ap,U,al,g,an⟩,ao⟩=>?_;have C:∀a,a<d.heap.size->¬f.qJ a->D.heap[a]? =d.heap[a]? :=λa i l=>(g.ext.Bo a i λK=>l (Sd.1 K)).1;have t:Ext d.heap f D.heap f:=by
  refine⟨g.ext.size,λa i l=>⟨C a i λhr=>l (.inr hr),l⟩,λh e c=>⟨e,c,.inl rfl⟩,rfl,λa i hr=>g.ext.kept a i hr⟩
 refine⟨⟨f,U.plain hr,⟨b.wf,aV b.fit g.ext.size,λh e c=>?_,b.inj,b.low,b.apart,λa hr=>bS (b.uM a hr) g.ext.size,λr q v=>(b.CH r q v).ext t⟩,⟨t,g.os,g.tape,g.output⟩,BT.refl _ _⟩,ng.refl b.wf⟩;have⟨n,m,N⟩:=b.box h e c;exact⟨n,m,N.ext t (C e.jV (b.lt c) (b.apart h e c))⟩
def QY{c:aj}{b:List T}{d:T}{a:H}(h:ni P cx c (b.map cn) d):tI P cx ⟨c,b,a,d,a⟩:=
 λe j k f i g=>h e j k f a i g.cn
structure iF where
 α:Type
 A:α->List T
 pre:α->Prop
 R:α->T
 inj:∀a b,A a=A b->R a=R b
structure mM where
 pre:List T->H->Prop
 post:List T->H->T->H->Prop
structure iq where
 p:aj->aa iF
 h:aj->aa mM
open Classical in
def rl(P:ai)(cx:Ctx)(f:iq)(d:aj)(c:List T):aa T:=match f.p d with
 |none=>none
 |some a=>if e:∃b,a.pre b/\a.A b=c/\ni P cx d c (a.R b)then some (a.R e.choose)else none
open Classical in
def hl(P:ai)(cx:Ctx)(g:iq)(c:aj)(b:List T)(d:H):aa (T×H):=match g.h c with
 |none=>none
 |some e=>if f:∃a:T×H,e.post b d a.1 a.2/\tI P cx ⟨c,b,d,a.1,a.2⟩then some f.choose else none
def AX(h:H)(d:Nat)(v:T):aa T:=Z (freeze h 0 d v) λv=>some (cn v)
def fz(b:H)(a:T):aa T:=Z (kh b 0 a) λa=>some (cn a)
def qZ(b:H)(a:T):aa T:=Z (mw b 0 a) λa=>some (cn a)
def VM(b:H)(a:List T):aa (List T):=iN (qZ b) a
mutual
def lr:T->Bool
 | .bool _| .int _ _| .str _| .mn| .fg _ _| .jf| .mF| .mN=>true
 | .agg a=>rJ a
 |_=>false
def rJ:List T->Bool
 | []=>true
 |x::a=>lr x&&rJ a
end
def r7(P:ai)(cx:Ctx)(d:iq):jS:=λc a b=>match VM b a with
 |none=>hl P cx d c a b
 |some f=>match rl P cx d c f with
  |none=>hl P cx d c a b
  |some e=>if(nI e||rJ a)=true then some (e,b)else hl P cx d c a b
def vJ{f g j:Type}(b:f->aa g)(d:g->j):∀a:List f,iN (λc=>Z (b c) λe=>some (d e)) a=Z (iN b a) λi=>some (i.map d):=by
 intro a;induction a with
 |nil=>rfl
 |cons c a h=>
  rw[kv,kv,h];rcases b c with _|e
  rfl;simp[fw];cases iN b a<;>rfl
def MF{c:H}{a b:List T}(d:VM c a=G b):∃e,iN (mw c 0) a=G e/\b=e.map cn:=by
 unfold VM qZ at d;rw[vJ]at d
 grind [eQ,hl,aw]
mutual
def wL(e:H)(g d:Nat):(b:T)->lr b->(∀c,b≠ .agg c)->freeze e g (d+1) b=G b
 | .bool _,_,_=>rfl
 | .int _ _,_,_=>rfl
 | .str _,_,_=>rfl
 | .mn,_,_=>rfl
 | .fg _ _,_,_=>rfl
 | .jf,_,_=>rfl
 | .mF,_,_=>rfl
 | .mN,_,_=>rfl
 | .agg c,_,f=>absurd rfl (f c)
 | .undef,a,_=>by grind [lr]
 | .ptr ..,a,_=>by grind [lr]
 | .kH _,a,_=>by grind [lr]
 | .arr ..,a,_=>by grind [lr]
 | .func ..,a,_=>by grind [lr]
 | .iface ..,a,_=>by grind [lr]
 | .iter _,a,_=>by grind [lr]
 | .map _,a,_=>by grind [lr]
 | .pV,a,_=>by grind [lr]
 | .tuple _,a,_=>by grind [lr]
end
def uF(b:H){a:T}(e:lr a)(d:∀c,a≠ .agg c):kh b 0 a=G a:=by have:=wL b 0 11 a e d;cases a<;>first|exact this|rfl
def FE{a:List T}(c:rJ a):∀b∈a,lr b=true:=by
 induction a with
 |nil=>simp
 |cons f a e=>
  intro b d;rw[rJ,aC]at c
  grind
def VL{b:H}{a d:List T}{base:Nat}{o:af Obj}{t:Mu}{j:List am}(m:ja o t a j)(p:rJ a)(n:VM b a=G d):d=a.map cn:=by
 obtain⟨v,hl,rfl⟩:=MF n;have:iN (mw b 0) a=G a:=by
  refine wG λh e=>?_;have f:=FE p h e;have⟨w,r⟩:=m.mem e;cases h with
  |agg l=>
   show(Z (iN (kh b 0) l) λs=>some (T.agg s))=_;obtain⟨u,rfl,_,q⟩:=r.tQ;rw[wG λi g=>uF b (FE (by rw[lr]at f;omega) i g) (λk c=>by have:=q i g;rw[c]at this;grind [T.scalar])];rfl
  |_=>exact uF b f Y
 rw[this]at hl;simp[aw]at hl;rw[hl]
def KT{e:iq}{c:aj}{b:List T}{d:T}(a:rl P cx e c b=G d):ni P cx c b d:=by
 unfold rl at a;split at a
 grind
 split at a
 grind
 grind
def GM{h:iq}{c:aj}{b:List T}{d e:H}{f:T}(a:hl P cx h c b d=G (f,e)):tI P cx ⟨c,b,d,f,e⟩:=by
 unfold hl at a;split at a
 grind
 split at a;rename_i g;simp[aw]at a;have:=g.choose_spec.2;rw[a]at this;omega
 grind
def Hk(P:ai)(cx:Ctx)(j:iq):qx P cx (r7 P cx j):=by
 intro m k n q o a base f g d e b;unfold r7 at a;split at a;exact GM a base f g d e b;rename_i l h;split at a;exact GM a base f g d e b;rename_i r hr;split at a;rename_i c;simp[aw,aH]at a;obtain⟨rfl,rfl⟩:=a;rw[cm]at c;rcases c with c|c
 obtain⟨p,hl,rfl⟩:=MF h;exact QZ (KT hr) hl c base f g d e b;have i:=VL (base:=base) b c h;subst i;exact QY (KT hr) base f g d e b;exact GM a base f g d e b
def iF.Ok(P:ai)(cx:Ctx)(c:aj)(b:iF):Prop:=∀a,b.pre a->ni P cx c (b.A a) (b.R a)
def iL{g:iq}{c:aj}{a:iF}(ht:g.p c=G a)(h:a.Ok P cx c)(b:a.α)(e:a.pre b):rl P cx g c (a.A b)=G (a.R b):=by have f:∃d,a.pre d/\a.A d=a.A b/\ni P cx c (a.A b) (a.R d):=⟨b,e,rfl,h b e⟩;unfold rl;rw[ht];simp only;rw[dif_pos f,a.inj _ _ f.choose_spec.2.1]
def mM.Ok(P:ai)(cx:Ctx)(f:aj)(c:mM):Prop:=∀a b,c.pre a b->∃e d,c.post a b e d/\tI P cx ⟨f,a,b,e,d⟩
def PG{tb:iq}{d:aj}{c:mM}(ht:tb.h d=G c)(l:c.Ok P cx d){a:List T}{b:H}(m:c.pre a b):∃i e,hl P cx tb d a b=G (i,e)/\c.post a b i e:=by have⟨i,e,j,k⟩:=l a b m;have f:∃g:T×H,c.post a b g.1 g.2/\tI P cx ⟨d,a,b,g.1,g.2⟩:=⟨(i,e),j,k⟩;refine⟨f.choose.1,f.choose.2,?_,f.choose_spec.1⟩;unfold hl;rw[ht];simp only;rw[dif_pos f]
theorem EY{b:iq}{a:aj}(ht:b.p a=none)(c:List T):rl P cx b a c=none:=by unfold rl;rw[ht]
def cfV(e:aa T)(c:Bool)(d:H)(a:aa (T×H)):aa (T×H):=match e with
 |none=>a
 |some b=>if(nI b||c)=true then some (b,d)else a
@[simp]def agi (b:Bool) (c:H) (a:aa (T×H)):cfV none b c a=a:=a9
@[simp]def Vj (a:T) (b:Bool) (c:H) (d:aa (T×H)):cfV (some a) b c d=if(nI a||b)=true then some (a,c)else d:=a9
def cfW(P:ai)(cx:Ctx)(e:iq)(c:aj)(a:List T)(d:H)(b:aa (List T)):aa (T×H):=match b with
 |none=>hl P cx e c a d
 |some b=>cfV (rl P cx e c b) (rJ a) d (hl P cx e c a d)
@[simp]def Vi (d:iq) (b:aj) (a:List T) (c:H):cfW P cx d b a c none=hl P cx d b a c:=a9
@[simp]def Vh (d:iq) (b:aj) (a e:List T) (c:H):cfW P cx d b a c (some e)=cfV (rl P cx d b e) (rJ a) c (hl P cx d b a c):=a9
def Vk(d:iq)(c:aj)(a:List T)(b:H):r7 P cx d c a b=cfW P cx d c a b (VM b a):=by
 unfold r7 cfW cfV;rcases VM b a with _|e
 rfl;rfl
end
end
section
section
variable {cx:Ctx}{h:H}
def ajl (a:ak) (b:Int):fz h (.int a b)=G (.int a b):=a9
def ahm (a:Bool):fz h (.bool a)=G (.bool a):=a9
def ajj (a:List Nat):fz h (.str a)=G (.str a):=a9
attribute [simp] ajl ahm ajj
@[simp]def XN (a:List T) (b:Bool):fz h (.fg a b)=G (sl (a.map cn)):=by show some (cn (.fg a b))=_;rw[qr]
@[simp]def abE (a b c d:Nat):fz h (.ptr a b c d)=none:=by unfold fz kh;simp
def ahs (c:Nat) (a:ak) (b:Int):AX h (c+1) (.int a b)=G (.int a b):=a9
def af4 (b:Nat) (a:Bool):AX h (b+1) (.bool a)=G (.bool a):=a9
def ahq (b:Nat) (a:List Nat):AX h (b+1) (.str a)=G (.str a):=a9
attribute [simp] ahs af4 ahq
@[simp]def UQ (c:Nat) (a:List T) (b:Bool):AX h (c+1) (.fg a b)=G (sl (a.map cn)):=by show some (cn (.fg a b))=_;rw[qr]
@[simp]def XP (b:Nat) (a:List T):AX h (b+1) (.agg a)=Z (iN (AX h b) a) λc=>some (.agg c):=by
 show(Z (Z (iN (freeze h 0 b) a) λc=>some (T.agg c)) λd=>some (cn d))=_;unfold AX;rw[vJ];rcases iN (freeze h 0 b) a with _|c
 rfl;simp[yl]
def iW(c e b d:Nat)(l:Bool):h.kd (.arr c e b d l)=Z (h.get c) λa=>iX (decide (a.ep=e)) (if a.it=true then none else if b+d<=a.im.length then some ((a.im.drop b).take d)else none):=by
 show(Z (h.get c) λa=>jO.casesOn a λ_ g _ _ f j=>iX (Nat.beq g e) (Bool.casesOn f (Z (lJ b j) λm=>takeN d m) none))=_;rcases h.get c with _|a
 rfl;obtain⟨o,g,p,n,f,k⟩:=a;simp[fw,C2];congr 1;cases f;simp[dj,ox,qB];by_cases i:b<=k.length;rw[au i,fw]
 grind
 rw[aq i,aq J];rfl;rfl
def BC(i a c e d:Nat)(k:Bool):AX h (i+1) (.arr a c e d k)=Z (h.kd (.arr a c e d k)) λf=>Z (iN (AX h i) f) λb=>some (sl b):=by
 have p:freeze h 0 (i+1) (.arr a c e d k)=iX (Nat.ble 0 a) (Z (h.get a) λg=>jO.casesOn g λ_ j _ exact l m=>
  iX (Nat.beq j c) (@Bool.rec (λ_=>aa T) (Z (Z (lJ e m) λb=>takeN d b) λf=>Z (iN (freeze h 0 i) f) λn=>
   @List.rec T (λ_=>aa T) (@List.rec T (λ_=>aa T) (@Bool.rec (λ_=>aa T) (some T.jf) (some (T.fg [] false)) exact) (λ_ _ _=>some T.jf) m) (λ_ _ _=>some (T.fg n k)) n) none l)):=rfl
 have q:h.kd (.arr a c e d k)=Z (h.get a) λg=>jO.casesOn g λ_ j _ _ l m=>iX (Nat.beq j c) (@Bool.rec (λ_=>aa (List T)) (Z (lJ e m) λb=>takeN d b) none l):=rfl;unfold AX;rw[p,q];rw[show Nat.ble 0 a=true by simp,iP];rcases h.get a with _|g
 rfl;obtain⟨r,j,s,o,l,f⟩:=g;simp only[fw];cases Nat.beq j c;rfl;simp only[iP];cases l;simp only;cases (Z (lJ e f) λb=>takeN d b)with
 |none=>rfl
 |some es1=>
  simp only[fw];rw[vJ];rcases iN (freeze h 0 i) es1 with _|G8
  rfl;simp only[fw];rcases G8 with _|⟨g,b⟩
  cases f;cases o<;>simp[qr,sl];simp[sl];simp[qr]
 rfl
@[simp]def yh (a b e d:Nat) (c:Bool):fz h (.arr a b e d c)=Z (h.kd (.arr a b e d c)) λf=>Z (iN (AX h 11) f) λg=>some (sl g):=by rw[<-BC];unfold fz AX kh;simp only;rw[show Nat.ble 0 a=true by simp]
def P4(a:List T):cn (sl a)=sl (a.map cn):=by rcases a with _|⟨c,b⟩;rfl;exact qr (c::b) false
def afZ(a:List T):fz h (sl a)=G (sl (a.map cn)):=by cases a<;>first|rfl|exact XN _ _
def abF(b:Nat)(a:List T):AX h (b+1) (sl a)=G (sl (a.map cn)):=by cases a<;>first|rfl|exact UQ b _ _
@[simp]def ajz {d:Type} (a:d->T) (c:List d) (e:∀b,cn (a b)=a b):cn (sl (c.map a))=sl (c.map a):=by rw[P4,List.map_map];congr 2;funext b;grind
@[simp]def ajk {d:Type} (a:d->T) (c:List d) (e:∀b,cn (a b)=a b):fz h (sl (c.map a))=G (sl (c.map a)):=by rw[afZ,List.map_map];congr 3;funext b;grind
@[simp]def ahr {d:Type} (e:Nat) (a:d->T) (c:List d) (f:∀b,cn (a b)=a b):AX h (e+1) (sl (c.map a))=G (sl (c.map a)):=by rw[abF,List.map_map];congr 3;funext b;grind
@[simp]def LG {e:Type} (c:T->aa T) (a:e->T) (d:List e) (f:∀b,c (a b)=G (a b)):iN c (d.map a)=G (d.map a):=wG λb g=>by
 grind
@[simp]def PL (a:List T):qZ h (.agg a)=Z (iN (fz h) a) λb=>some (.agg b):=by
 show(Z (Z (iN (kh h 0) a) λb=>some (T.agg b)) λc=>some (cn c))=_;unfold fz;rw[vJ];rcases iN (kh h 0) a with _|b
 rfl;simp[yl]
def ahp (a:ak) (b:Int):qZ h (.int a b)=G (.int a b):=a9
def af2 (a:Bool):qZ h (.bool a)=G (.bool a):=a9
def ahn (a:List Nat):qZ h (.str a)=G (.str a):=a9
def af0 (a:List T) (b:Bool):qZ h (.fg a b)=fz h (.fg a b):=a9
attribute [simp] ahp af2 ahn af0
@[simp]theorem ajm (a:List T):qZ h (sl a)=fz h (sl a):=by cases a<;>rfl
@[simp]def XO (a b e d:Nat) (c:Bool):qZ h (.arr a b e d c)=fz h (.arr a b e d c):=a9
@[simp]def aho (a b c d:Nat):qZ h (.ptr a b c d)=none:=abE (h:=h) a b c d
@[simp]def ahT:VM h []=G []:=a9
@[simp]def agu (b:T) (a:List T):VM h (b::a)=Z (qZ h b) λd=>Z (VM h a) λc=>some (d::c):=a9
@[simp]def aaz:rJ []=true:=by rw[rJ]
@[simp]def Zj (b:T) (a:List T):rJ (b::a)=(lr b&&rJ a):=by rw[rJ]
@[simp]def acG (a:ak) (b:Int):lr (.int a b)=true:=by rw[lr]
@[simp]def aaB (a:Bool):lr (.bool a)=true:=by rw[lr]
@[simp]def acF (a:List Nat):lr (.str a)=true:=by rw[lr]
@[simp]def aaA (a:List T) (b:Bool):lr (.fg a b)=true:=by rw[lr]
@[simp]def Zk:lr .jf=true:=by rw[lr]
@[simp]def aey (a:List T):lr (sl a)=true:=by cases a<;>simp[sl]
@[simp]def acI (a:List T):lr (.agg a)=rJ a:=by rw[lr]
@[simp]def acH (a b e d:Nat) (c:Bool):lr (.arr a b e d c)=false:=by simp[lr]
@[simp]def ZB:rP []=true:=by rw[rP]
@[simp]def WW (b:T) (a:List T):rP (b::a)=(nI b&&rP a):=by rw[rP]
@[simp]def aaO (a:ak) (b:Int):nI (.int a b)=true:=by rw[nI]
@[simp]def ZC (a:Bool):nI (.bool a)=true:=by rw[nI]
@[simp]def aaN (a:List Nat):nI (.str a)=true:=by rw[nI]
@[simp]def WZ:nI .jf=true:=by rw[nI]
@[simp]def WY (a:List T):nI (.tuple a)=rP a:=by rw[nI]
@[simp]def PC (a:List T):pJ (sl a)=om a:=by cases a<;>simp[sl]
@[simp]def ahb {c:Type} (a:c->T) (b:List c) (d:∀e,pJ (a e)):om (b.map a)=true:=RA a d b
@[simp]theorem agj (a:List T):(sl a).cells=[sl a]:=by cases a<;>rfl
@[simp]theorem ahk (a:List T):(sl a).je=true:=by cases a<;>rfl
def afU (a b e d:Nat) (c:Bool):(T.arr a b e d c).je=true:=a9
def afS (a b c d:Nat):(T.ptr a b c d).je=true:=a9
def ade (a b e d:Nat) (c:Bool):(T.arr a b e d c).cells=[.arr a b e d c]:=a9
def adb (a b c d:Nat):(T.ptr a b c d).cells=[.ptr a b c d]:=a9
attribute [simp] afU afS ade adb
@[simp]def ahc (b:Ty) (a:List T) (d:ab) (c:b.u= .slice d):HX cx h b (sl a)=be (.int .i64 a.length) h:=by cases a<;>simp[sl,c]
@[simp]theorem ahi (c:Ty) (a:List T) (b:Nat):nC h c (sl a) b=Z (a[b]?) λd=>iX (decide (d.cells.length=c.size)) (be (.kH d.cells) h):=by cases a<;>simp[sl];rfl
@[simp]theorem UK (a:List T):h.kd (sl a)=G a:=by cases a<;>rfl
def Dg{a b:List T}(c:sl a=sl b):a=b:=by
 cases a<;>cases b<;>simp[sl]at c;rfl
 grind
def jD{f:Type}{a:f->T}(i:∀d e,a d=a e->d=e){b c:List f}(g:sl (b.map a)=sl (c.map a)):b=c:=by
 have:=Dg g
 grind [List.map_inj_right]
@[simp]def fH (b:jO) (a:Nat):(h.cons b).get a=if a=h.size then some b else h.get a:=by
 rw[H.get_eq,H.get_eq];show(if a<h.size+1 then(b::h.iA)[h.size+1-1-a]? else none)=_
 grind
def fj{a:Nat}{x:jO}(k:h.get a=G x)(d:jO)(f:Nat):(fQ h a d).get f=if f=a then some d else h.get f:=by
 have c:=zj k d;generalize fQ h a d=g at*
 obtain⟨b,i,e⟩:=h;have l:a<b:=H.fV k;have c:(iX (Nat.blt a b) (Z (nH e (Nat.sub (Nat.sub b 1) a) d) λj=> @Bool.rec (λ_=>aa H) (some ⟨b,i,j⟩) (some ⟨b,a,j⟩) (Nat.blt a i)))=G g:=c;rw[show Nat.blt a b=true from aQ▸l,iP,mv]at c;by_cases hl:Nat.sub (Nat.sub b 1) a<e.length;rw[au hl,fw]at c;have p:g.size=b/\g.iA=e.set (b-1-a) d:=by
  cases m:Nat.blt a i<;>rw[m]at c<;>simp[aw]at c<;>subst c<;>exact⟨rfl,rfl⟩
 obtain⟨n,o⟩:=p;rw[H.get_eq,H.get_eq,n,o]
 grind
 simp_all[aq]
@[simp]theorem iB (b:Nat) (c:jO):(fQ h b c).size=h.size:=by
 unfold fQ;rcases a:h.put b c with _|d
 rfl;obtain⟨g,f,i⟩:=h;have a:=a;have⟨_,a⟩:=fq.1 a;have⟨j,_,a⟩:=eQ.1 a;show d.size=g;cases e:Nat.blt b f<;>rw[e]at a<;>simp[aw]at a<;>subst a<;>rfl
@[simp]def ah5 (c:Nat) (d:jO):Hp (fQ h c d)=Hp h:=by
 unfold fQ;rcases a:h.put c d with _|e
 rfl;obtain⟨k,g,i⟩:=h;have a:=a;have⟨_,a⟩:=fq.1 a;have⟨j,b,a⟩:=eQ.1 a;rw[mv]at b;split at b;simp[aw]at b;subst b;show Hp e=_;unfold Hp;cases f:Nat.blt c g<;>rw[f]at a<;>simp[aw]at a<;>subst a<;>simp
 grind
@[simp]def WH (a:Nat):il h h a=true:=by unfold il;cases h.get a<;>simp
@[simp]def WI (c:jO) (a:Nat):il h (h.cons c) a=true:=by
 unfold il;rcases b:h.get a with _|d
 rfl;have:=H.fV b;simp[fH,aq (show¬a=h.size by omega),b]
def Ei{b:Nat}{e:jO}(d:h.get b=G e)(f:jO){a:Nat}(c:a≠b):il h (fQ h b f) a=true:=by unfold il;rw[fj d,aq c];cases h.get a<;>simp
def RQ(h:H)(a:List T):aa T:=Z (kI h 0 (ky a)) λb=>some (cn b)
@[simp]def N9 (a:T) (b:a.je):RQ h [a]=qZ h a:=by cases a<;>first|rfl|(simp[T.je]at b)
def L7(a:List T):(Z (kI h 0 (.tuple a)) λc=>some (cn c))=Z (iN (qZ h) a) λb=>some (.tuple b):=by
 show(Z (Z (iN (mw h 0) a) λb=>some (T.tuple b)) λc=>some (cn c))=_;unfold qZ;rw[vJ];rcases iN (mw h 0) a with _|b
 rfl;simp[xQ]
@[simp]def ajo (b c:T) (a:List T):RQ h (b::c::a)=Z (iN (qZ h) (b::c::a)) λd=>some (.tuple d):=L7 (b::c::a)
def OV(h:H)(a:List T)(b:T):Prop:=Hp h/\RQ h a=G b
def YM(a:List T)(b:T):OV h a b=(Hp h/\RQ h a=G b):=rfl
attribute [simp] YM
end
section
variable {P:ai}{cx:Ctx}{cf:jS}{V:Nat}
def pt:List (Nat×iF)->aj->aa iF
 | [],_=>none
 |(b,d)::c,a=>if a=b then some d else pt c a
def ht:List (Nat×mM)->aj->aa mM
 | [],_=>none
 |(b,d)::c,a=>if a=b then some d else ht c a
def aiC (a:aj):pt [] a=none:=a9
def ag6 (b:Nat) (d:iF) (c:List (Nat×iF)) (a:aj):pt ((b,d)::c) a=if a=b then some d else pt c a:=a9
def ajf (a:aj):ht [] a=none:=a9
def ahj (b:Nat) (d:mM) (c:List (Nat×mM)) (a:aj):ht ((b,d)::c) a=if a=b then some d else ht c a:=a9
attribute [simp] aiC ag6 ajf ahj
def io{f:Env->H->Out}(b:Nat)(l:b<9223372036854775808)(d:Nat->iM->H->Prop){e:jH}
 (m:∀c a h,c<b->binop .add (.int .i64 (c:Int)) (.int .i64 1)=G (.int .i64 ((c:Int)+1))->d c a h->W (f ⟨a,.nil⟩ h) (By (λg h=>g.tmps= .nil/\d (c+1) g.vars h) e))
 (o:∀a h,d b a h->W (f ⟨a,.nil⟩ h) (By (λg h=>False) e))
 {j:Nat} (k:b<j) {a:iM} {h:H} (i:d 0 a h):W (su f j ⟨a,.nil⟩ h) e:=by
 refine VW b d (λc a h n i=>?_) k (az b) i
 grind [aR,jr]
def C1{a:Func}(c:Cy ⟨a,V,false,none⟩):∃b,a.body=G b:=by
 unfold Cy at c
 grind
def adr(B:P.follows .mixedOrders)(j8:jR P cx){l:aj}{b:Func}{r:DL}(g:Ea P cx l b V r)(x:qx P cx cf){a:List T}{n:T}(hl:om a)(C:a.length<=b.ntmps)(i:Nat)
 (I:∀v,oz v 0 a->W (kN cx cf i V r (b.body.getD .skip) ⟨v,.nil⟩ hE) (AJ cx V b.results.toList λt h=>OV h t n)):ni P cx l a n:=by
 have S:∃c,cn c=n/\wM cx cf i b V false a hE=G (c,hE):=by
  have⟨u,E,_,A⟩:=o7 V b.ntmps 0 a C;have⟨U,y,h,d,K,t,hr,D,f⟩:=Hz (I u A);have d:=uj _ g.dr _ _ _ d;have⟨w,e⟩:=C1 g.ok;rw[e]at d;unfold RQ at f;have⟨c,f,s⟩:=eQ.1 f;simp[aw]at s;refine⟨c,s,?_⟩;unfold wM;rw[e];simp only;rw[E,fw];have d:lV cx cf i V w ⟨u,.nil⟩ ⟨0,0,[]⟩=G (U,y,h):=d;rw[d,fw,nV];rcases K with rfl|rfl<;>(simp only;rw[(rL hr),fw];exact LM D f)
 obtain⟨c,rfl,e⟩:=S;have z:ni P cx l a c:=E0 (nl _ hl) λj p q k o m=>
  sP (F:=⟨b,V,false,none⟩) B j8 g.at_ g.ok cf x i a hE c hE e j p q k o m
 intro j p q k h o m;refine(z j p q k h o m).mono λZ ae ⟨⟨X,L,N,O,Q⟩,R⟩=>?_;exact⟨⟨X,L.cn,N,O,Q⟩,R⟩
end
end
section
structure Fr(lo:Nat)(h h':H):Prop where
 size:h.size<=h'.size
 hp:Hp h->Hp h'
 get:∀c,c<lo->h'.get c=h.get c
 low:lo<=h.low->lo<=h'.low
def Fr.refl(a:Nat)(h:H):Fr a h h:=⟨ay _,id,λ_ _=>rfl,id⟩
def Fr.trans{d:Nat}{h g i:H}(a:Fr d h g)(b:Fr d g i):Fr d h i:=⟨aV a.size b.size,λc=>b.hp (a.hp c),λf j=>(b.get f j).trans (a.get f j),λc=>b.low (a.low c)⟩
theorem Fr.cons{lo:Nat}{h:H}(hl:lo<=h.size)(a:jO):Fr lo h (h.cons a):=⟨Y,Y,λb c=>by simp;omega,id⟩
def S8(h:H)(b:Nat)(f:jO)(c:Nat)(d:c<=h.low)(m:c<=b):c<=(fQ h b f).low:=by
 unfold fQ;rcases a:h.put b f with _|g
 exact d;obtain⟨n,j,k⟩:=h;have a:=a;have⟨_,a⟩:=fq.1 a;have⟨l,_,a⟩:=eQ.1 a;show c<=g.low;cases i:Nat.blt b j<;>rw[i]at a<;>simp[aw]at a<;>subst a;exact d;omega
theorem Fr.put{b:Nat}{h:H}{a:Nat}{x:jO}(d:h.get a=G x)(c:b<=a)(y:jO):Fr b h (fQ h a y):=⟨Y,Y,λg i=>by rw[fj d,aq J],λf=>S8 h a y b f c⟩
def wc(h:H)(g:Nat)(d:T)(i:Nat)(b:List T):Prop:=
 (d= .fg [] false/\b=[])\/∃a c j f,g<=a/\d= .arr a c 0 b.length false/\h.get a=G ⟨i,c,j,f,false,b⟩
theorem wc.nil(h:H)(a b:Nat):wc h a (.fg [] false) b []:= .inl ⟨rfl,rfl⟩
theorem wc.cons{h:H}{lo:Nat}{f:T}{d:Nat}{b:List T}(a:wc h lo f d b)(n:jO):wc (h.cons n) lo f d b:=by rcases a with a|⟨g,i,m,j,k,l,c⟩;exact .inl a;have:=H.fV c;exact .inr ⟨g,i,m,j,k,l,by rw[fH,aq J];exact c⟩
theorem wc.je{h:H}{d:Nat}{a:T}{f:Nat}{b:List T}(c:wc h d a f b):a.je=true:=by rcases c with⟨rfl,_⟩|⟨g,i,m,j,k,rfl,l⟩<;>rfl
theorem wc.cells{h:H}{d:Nat}{a:T}{f:Nat}{b:List T}(c:wc h d a f b):a.cells=[a]:=by rcases c with⟨rfl,_⟩|⟨g,i,m,j,k,rfl,l⟩<;>rfl
def wc.fz{h:H}{g:Nat}{d:T}{i:Nat}{a b:List T}(f:wc h g d i a)(c:iN (AX h 11) a=G b):TI.fz h d=G (sl b):=by rcases f with⟨rfl,rfl⟩|⟨j,k,o,l,m,rfl,n⟩;have c:=c;simp_all;simp_all[iW,yh]
def wc.qZ{h:H}{i:Nat}{d:T}{j:Nat}{a b:List T}(c:wc h i d j a)(g:iN (AX h 11) a=G b):TI.qZ h d=G (sl b):=by rw[<-c.fz g];rcases c with⟨rfl,_⟩|⟨k,l,p,m,n,rfl,o⟩<;>rfl
@[simp]theorem acO {cx:Ctx} {V:Nat} {e:Env} {h:H} (a:List ah) (b c:ab):j9 (.call ⟨.builtin .append,a.toArray,#[b,c]⟩) cx V e h=Z (iN (iG cx V e) a) λd=>(match d with| [f,g]=>jE cx h b c f g|_=>none):=rfl
def nD{sz:Nat}{es:List T}(a:∀e∈es,e.cells.length=sz):fits sz es=true:=by rcases es with _|⟨e,es⟩;rfl;show Nat.beq (oo e.cells) sz=true;rw[kQ,a e Y];simp
def sa{h:H}{b bytes:Nat}{a:List T}(c:∀e∈a,e.cells.length=b)(d:1<=bytes)(f:a.length*bytes<=70368744177664):
 h.ku b bytes [] a=G (.arr h.size 0 0 a.length false,h.cons ⟨b,0,0,false,false,a⟩):=by
 unfold H.ku;rw[sd,fw,kQ,jx,fw,nD c,nD Y];simp_all
def z9{h:H}{f bytes c d i:Nat}{j:Bool}{a b:List T}(g:h.get c=G ⟨f,d,i,j,false,a⟩)(k:∀e∈b,e.cells.length=f)(l:1<=bytes)(m:(a.length+b.length)*bytes<=70368744177664):
 h.o6 f bytes c d a.length b=G (.arr c (d+1) 0 (a++b).length false,fQ h c ⟨f,d+1,i+1,false,false,a++b⟩):=by
 unfold H.o6;rw[g];simp[fw,qB,aI,sd,kQ,jx,nD k,zj g];simp_all
def wc.app{cx:Ctx}{h:H}{k:Nat}{c:T}{a:Nat}{d:List T}(y:wc h k c a d)(w:k<=h.size){r s l:ab}{B C b:Ty}(F:cx.ty r=G B)(I:B.u= .slice l)(K:cx.ty l=G b)(L:cx.ty s=G C)(N:C.u= .slice l)(z:b.size=a)(v:1<=b.bytes)
 {x:T} {xs:List T} (Q:h.kd x=G xs) (o:∀e∈xs,e.cells.length=a) (P:(d.length+xs.length)*b.bytes<=70368744177664):
 ∃D m,jE cx h r s c x=be D m/\wc m k D a (d++xs)/\Fr k h m:=by
 have O:jE cx h r s c x=kJ (h.append b.size b.bytes c xs):=by
  unfold jE tu pP;rw[F,fw,L,fw];simp[I,K,N,Q,fw];rw[z,nD o,iP]
 rw[O,z];rcases xs with _|⟨f,g⟩
 refine⟨c,h,?_,by grind,Fr.refl _ _⟩;show kJ (iX (vM c) (some (c,h)))=_;rcases y with⟨rfl,_⟩|⟨i,j,t,E,_,rfl,_⟩<;>rfl
 rcases y with⟨rfl,rfl⟩|⟨i,j,t,E,A,rfl,q⟩;refine⟨.arr h.size 0 0 (f::g).length false,h.cons ⟨a,0,0,false,false,f::g⟩,?_,.inr ⟨h.size,0,0,false,w,rfl,Y⟩,Fr.cons w _⟩;show kJ (h.ku a b.bytes [] (f::g))=_;rw[sa o v c5];rfl;refine⟨.arr i (j+1) 0 (d++f::g).length false,fQ h i ⟨a,j+1,t+1,false,false,d++f::g⟩,?_,.inr ⟨i,j+1,t+1,false,A,rfl,by rw[fj q,au rfl]⟩,Fr.put q A _⟩;show kJ (h.o6 a b.bytes i j d.length (f::g))=_;rw[z9 q o v P];rfl
theorem d4{p:Prop}(h:p:=by rw[iW];simp):p:=h
def wc.oy{cx:Ctx}{h:H}{c:Nat}{o:T}{a:Nat}{i:List T}(s:wc h c o a i)(r:c<=h.size){j k:ab}{n d:Ty}(l:cx.ty j=G n)(m:n.u= .slice k)(p:cx.ty k=G d)(t:d.size=a)(q:1<=d.bytes)
 {e:T} (z:e.cells.length=a) (A:(i.length+1)*d.bytes<=70368744177664):
 ∃g b,jE cx (h.cons ⟨a,0,0,true,false,[e]⟩) j j o (.arr h.size 0 0 1 false)=be g b/\wc b c g a (i++[e])/\Fr c h b:=by
 have⟨g,b,v,w,y⟩:=(s.cons ⟨a,0,0,true,false,[e]⟩).app (x:= .arr h.size 0 0 1 false) (xs:=[e]) dY l m p l m t q d4 c5 J;exact⟨g,b,v,w,(Fr.cons r _).trans y⟩
@[simp]def UB (h:H) (a:jO):(h.cons a).low=h.low:=a9
@[simp]theorem zq (h:H) (f c:jO) (g:Nat) (j:g=h.size) (hl:h.low<=h.size):fQ (h.cons f) g c=h.cons c:=by
 subst j;obtain⟨a,b,d⟩:=h;unfold fQ;have:(H.cons ⟨a,b,d⟩ f).put a c=G (H.cons ⟨a,b,d⟩ c):=by
  show(iX (Nat.blt a (a+1)) (Z (nH (f::d) (Nat.sub (Nat.sub (a+1) 1) a) c) λi=> @Bool.rec (λ_=>aa H) (some ⟨a+1,b,i⟩) (some ⟨a+1,a,i⟩) (Nat.blt a b)))=G ⟨a+1,b,c::d⟩;rw[show Nat.blt a (a+1)=true by rw[aQ];omega,iP,mv,show Nat.sub (Nat.sub (a+1) 1) a=0 by simp];simp only[aU,Nat.zero_lt_succ,if_true,cS,fw];rw[show Nat.blt a b=false by rw[cK];intro k;rw[aQ]at k;grind]
 rw[this];rfl
@[simp]def ag1 (h:H) (i d:jO) (a:Nat) (j:a<h.size):fQ (h.cons i) a d=(fQ h a d).cons i:=by
 obtain⟨b,c,f⟩:=h;have j:a<b:=j;have k:(H.cons ⟨b,c,f⟩ i).put a d=iX (Nat.blt a (b+1)) (Z (nH (i::f) (Nat.sub (Nat.sub (b+1) 1) a) d) λg=> @Bool.rec (λ_=>aa H) (some ⟨b+1,c,g⟩) (some ⟨b+1,a,g⟩) (Nat.blt a c)):=rfl;have l:(⟨b,c,f⟩:H).put a d=iX (Nat.blt a b) (Z (nH f (Nat.sub (Nat.sub b 1) a) d) λg=> @Bool.rec (λ_=>aa H) (some ⟨b,c,g⟩) (some ⟨b,a,g⟩) (Nat.blt a c)):=rfl;unfold fQ;rw[k,l,show Nat.blt a (b+1)=true by rw[aQ];omega,show Nat.blt a b=true from aQ▸j,iP,iP,mv,mv,
  show Nat.sub (Nat.sub (b+1) 1) a=Nat.sub (Nat.sub b 1) a+1 by grind]
 by_cases hl:Nat.sub (Nat.sub b 1) a<f.length;rw[au c5,au hl,fw,fw];cases Nat.blt a c<;>rfl;simp_all[aq]
def fN(a:List T)(b:Nat)(c:List T):mT (.agg a) b c=Z (mR a b c) λd=>some (.agg d):=rfl
attribute [simp] fN
def acJ (b:ak) (c:Int) (a:T):mT (.int b c) 0 [a]=G a:=a9
def aaD (b:Bool) (a:T):mT (.bool b) 0 [a]=G a:=a9
def aaC (b:List T) (c:Bool) (a:T):mT (.fg b c) 0 [a]=G a:=a9
def abG (a:Nat):nJ [] a=false:=a9
attribute [simp] acJ aaD aaC abG
@[simp]theorem ZU (b d a:Nat) (c:List (Nat×Nat)):nJ ((b,d)::c) a=(decide (b=a)||nJ c a):=by unfold nJ;rw[List.any_cons];rfl
@[simp]def afM (a b:Nat):DJ [] a b=false:=a9
@[simp]theorem ac1 (c d a b:Nat) (f:List (Nat×Nat)):DJ ((c,d)::f) a b=((decide (c=a)&&decide (d=b))||DJ f a b):=by unfold DJ;rw[List.any_cons];rfl
@[simp]def Og (a:List (Nat×Nat)) (b:Nat) (h:H) (c:List (Nat×Nat)):zL a b h h c=True:=by unfold zL;simp
@[simp]def afr {f:Type} (a b:Nat) (d:f) (c:List (Nat×f)):List.lookup a ((b,d)::c)=if a=b then some d else List.lookup a c:=by
 rw[List.lookup_cons]
 grind
def Oq(a:T):Nat:=a.cells.length
def ahR (a:ak) (b:Int):Oq (.int a b)=1:=a9
def agf (a:Bool):Oq (.bool a)=1:=a9
def ahQ (a:List Nat):Oq (.str a)=1:=a9
attribute [simp] ahR agf ahQ
def Im(cx:Ctx)(h:H)(c:Ty)(d:T)(f a b:aa Nat):aa nO:=iX (jL cx h c.u d) (iX (AI a b) (val h (sK (asSlice c.u d) f a b)))
def oiK(cx:Ctx)(V:Nat)(e:Env)(a:aa ah):aa (aa Nat):=li cx V e a
section
variable {cx:Ctx}{V:Nat}{e:Env}{h:H}
@[simp]def ae9:oiK cx V e none=G none:=a9
@[simp]def ae8 (a:ah):oiK cx V e (some a)=Z (iG cx V e a) λc=>Z (uJ c) λb=>some (some b):=a9
@[simp]theorem afb (g:ab) (a:ah) (d b c:aa ah):j9 (.slice g a d b c) cx V e h=Z (cx.ty g) λf=>Z (iG cx V e a) λa=>Z (oiK cx V e d) λd=>Z (oiK cx V e b) λb=>Z (oiK cx V e c) λc=>Im cx h f a d b c:=by show(Z (cx.ty g) λf=>Z (iG cx V e a) λa=>iX (jL cx h f.u a)<|Z (li cx V e d) λd=>Z (li cx V e b) λb=>Z (li cx V e c) λc=>iX (AI b c) (val h (sK (asSlice f.u a) d b c)))=_;unfold oiK Im;congr 1;funext f;congr 1;funext a;cases jL cx h f.u a;simp[RT];cases li cx V e d<;>simp;cases li cx V e b<;>simp;cases li cx V e c<;>simp;rfl
def P1{d:Type}(c:List d)(b a:Nat)(g:b<=a)(f:a<=c.length):Oo c b a=G ((c.drop b).take (a-b)):=by unfold Oo;rw[ox,au J,fw,qB];rw[au c5];rfl
def SM(d:List T)(a b:Nat)(o:a<=b)(n:b<=d.length)(f c:aa Nat)(k:jc f 0=a)(g:jc c d.length=b):sK (sl d) f c none=G (sl ((d.drop a).take (b-a))):=by
 rcases d with _|⟨j,i⟩;have l:b=0:=by grind
 subst l;have m:a=0:=J;subst m;show(iX (Nat.beq (jc f 0) 0) (iX (Nat.beq (jc c 0) 0) (some T.jf)))=_;have g:jc c 0=0:=g;rw[k,g];rfl;show sJ (j::i) false (jc f 0) (jc c (oo (j::i))) none=_;rw[kQ,k,g];unfold sJ;rw[P1 _ _ _ o n,fw,show Nat.ble a b=true by simp_all,iP];cases (List.take (b-a) (List.drop a (j::i)))<;>rfl
def Ng{d i:Ty}{f:ab}(g:d.u= .slice f)(ht:cx.ty f=G i){a:List T}(l:∀j∈a,j.cells.length=i.size){c b:aa Nat}(n:jc c 0<=jc b a.length)(m:jc b a.length<=a.length):
 Im cx h d (sl a) c b none=be (sl ((a.drop (jc c 0)).take (jc b a.length-jc c 0))) h:=by
 unfold Im;have k:jL cx h d.u (sl a):=by
  rw[g];unfold jL;simp[ht];rcases a with _|⟨j,o⟩
  rfl;exact nD l
 rw[k,iP,show AI b none=true from rfl,iP,show asSlice d.u (sl a)=sl a by rw[g];rfl,SM a _ _ n m c b rfl rfl];rfl
@[simp]def aio {j:Type} (i d:Ty) (g:ab) (a:j->T) (b:List j) (c:Nat) (l:i.u= .slice g) (ht:cx.ty g=G d) (k:∀m,Oq (a m)=d.size) (n:c<=b.length):Im cx h i (sl (b.map a)) none (some c) none=be (sl ((b.take c).map a)) h:=by rw[Ng l ht (iC (λf _=>show(a f).cells.length=d.size from k f)) (by simp[jc]) (by grind [jc])];simp[jc,List.map_take]
@[simp]def aew {j:Type} (i d:Ty) (g:ab) (a:j->T) (b:List j) (c:Nat) (l:i.u= .slice g) (ht:cx.ty g=G d) (k:∀m,Oq (a m)=d.size) (n:c<=b.length):Im cx h i (sl (b.map a)) (some c) none none=be (sl ((b.drop c).map a)) h:=by rw[Ng l ht (iC (λf _=>show(a f).cells.length=d.size from k f)) (by grind [jc]) (by simp[jc])];simp[jc,aL,<-List.map_drop];rw[cd Y]
@[simp]def ag0 {k:Type} (j f:Ty) (i:ab) (a:k->T) (d:List k) (c b:Nat) (m:j.u= .slice i) (ht:cx.ty i=G f) (l:∀n,Oq (a n)=f.size) (p:c<=b) (o:b<=d.length):Im cx h j (sl (d.map a)) (some c) (some b) none=be (sl (((d.drop c).take (b-c)).map a)) h:=by rw[Ng m ht (iC (λg _=>show(a g).cells.length=f.size from l g)) (by grind [jc]) (by grind [jc])];simp[jc,List.map_take,List.map_drop]
@[simp]def Pe (g k:Ty) (i:ab) (a c f d b:Nat) (q:Bool) (l:jO) (j:g.u= .slice i) (ht:cx.ty i=G k) (r:h.get a=G l) (s:l.sz=k.size) (n:b<=d):Im cx h g (.arr a c f d false) none (some b) none=be (.arr a c f b false) h:=by
 unfold Im;have m:jL cx h g.u (.arr a c f d false):=by
  rw[j];unfold jL;simp_all
 rw[m,iP,show AI (some b) none=true from rfl,iP,show asSlice g.u (.arr a c f d false)= .arr a c f d false by rw[j];rfl];show val h (iX (Nat.ble 0 b) (iX (Nat.ble b d) (Z (jd (Nat.add f 0)) λp=>Z (jd (Nat.sub b 0)) λo=>some (T.arr a c p o false))))=_;simp[n]
def U7(cx:Ctx)(h:H)(d b:ab)(c:Ty)(a:T):aa nO:=match c.u with
 | .slice _=>val h (Hr cx b a)
 | .str=>(match a with
  | .str _=>val h (conv cx b a)
  |_=>val h (HL cx h d a))
 |_=>val h (conv cx b a)
@[simp]theorem abb (b a:ab) (c:ah):j9 (.convert b a c) cx V e h=Z (cx.ty b) λ_=>Z (iG cx V e c) λd=>Z (cx.ty a) λf=>U7 cx h b a f d:=rfl
def E9{k d:ab}{b:Ty}{c g:ak}{a:Int}(i:cx.ty d=G b)(f:b.u= .int c)(j:OX c a=a):U7 cx h k d b (.int g a)=be (.int c a) h:=by
 unfold U7;rw[f];show val h (Z (cx.ty d) λb=>match b.u with
  | .int c=>(match(T.int g a)with| .int _ a=>rN c a|_=>none)
  | .str=>_
  |_=>none)=_
 rw[i,fw,f];simp[rN,j]
@[simp]def ahP (k c:ab) (b:Ty) (j:ak) (a:Int) (g:cx.ty c=G b) (i:b.u= .int .i64) (d: -9223372036854775808<=a) (f:a<9223372036854775808):U7 cx h k c b (.int j a)=be (.int .i64 a) h:=E9 g i (lA d f)
@[simp]def Xs (f:ab) (a b:ah):j9 (.makeSlice f a b) cx V e h=Z (cx.ty f) λd=>(match d.u with
 | .slice g=>Z (cx.ty g) λc=>Z (iG cx V e a) λa=>Z (iG cx V e b) λb=>Z (uJ a) λa=>Z (uJ b) λb=>
  iX (decide (1<=c.size))<|iX (decide (1<=c.bytes))<|iX (decide (a<=b)) (iX (decide (b*c.bytes<=70368744177664)) (be (.arr h.size 0 0 a false) (h.cons ⟨c.size,0,0,decide (a=b),false,List.replicate a c.ls⟩)))
 |_=>none):=by
 show(Z (cx.ty f) λd=>_)=_;congr 1;funext d;cases d.u<;>first|rfl|skip
 simp
@[simp]def ZK (b:aj) (a:List ah):j9 (.makeFunc (.func b) #[] a.toArray) cx V e h=Z (iN (iG cx V e) a) λc=>be (.func b c) h:=by show(Z (ud cx V e a) λa=>val h (some (T.func b a)))=_;simp
end
def wc.Yw{cx:Ctx}{h:H}{d:Nat}{q:T}{b:Nat}{k:Type}{a:k->T}{g:List k}(w:wc h d q b (g.map a))(v:d<=h.size){i m:ab}{p f:Ty}(n:cx.ty i=G p)(o:p.u= .slice m)(r:cx.ty m=G f)(y:f.size=b)(s:1<=f.bytes)
 (t:∀x,Oq (a x)=b) (xs:List k) (z:(g.length+xs.length)*f.bytes<=70368744177664):
 ∃j c,jE cx h i i q (sl (xs.map a))=be j c/\wc c d j b ((g++xs).map a)/\Fr d h c:=by
 have⟨j,c,A,B,C⟩:=w.app (x:=sl (xs.map a)) (xs:=xs.map a) v n o r n o y s Y (iC (λl _=>show(a l).cells.length=b from t l)) c5
 grind
def wc.VO{cx:Ctx}{h:H}{f:Nat}{o:T}{c:Nat}{l:Type}{b:l->T}{i:List l}(w:wc h f o c (i.map b))(v:f<=h.size){j m:ab}{n g:Ty}(p:cx.ty j=G n)(q:n.u= .slice m)(r:cx.ty m=G g)(x:g.size=c)(s:1<=g.bytes)
 (t:∀a,Oq (b a)=c) (a:l) (y:(i.length+1)*g.bytes<=70368744177664):
 ∃k d,jE cx (h.cons ⟨c,0,0,true,false,[b a]⟩) j j o (.arr h.size 0 0 1 false)=be k d/\wc d f k c ((i++[a]).map b)/\Fr f h d:=by
 have⟨k,d,z,A,B⟩:=w.oy v p q r x s (e:=b a) (t a) c5
 grind
def wc.fzM{h:H}{j:Nat}{b:T}{k:Nat}{d:Type}{f:d->T}{a:List d}(i:wc h j b k (a.map f))(g:∀c,AX h 11 (f c)=G (f c)):TI.qZ h b=G (sl (a.map f)):=i.qZ (LG _ _ _ g)
def AO{c:ai}{cx:Ctx}{tb:iq}{b:iF}(l:c.follows .mixedOrders)(j8:jR c cx){g:aj}{d:Func}{V:Nat}{f:DL}(o:Ea c cx g d V f)(i:b.α->Nat)(hl:∀a,om (b.A a))(m:∀a,(b.A a).length<=d.ntmps)
 (n:∀a,b.pre a->∀j,oz j 0 (b.A a)->W (kN cx (r7 c cx tb) (i a) V f (d.body.getD .skip) ⟨j,.nil⟩ hE) (AJ cx V d.results.toList λp h=>OV h p (b.R a))):b.Ok c cx g:=
 λa k=>adr l j8 o (Hk c cx tb) (hl a) (m a) (i a) (n a k)
attribute [simp] Vk
end
abbrev tJ(a:T)(c:List T)(g:Nat):Prop:=a.cells=c/\Oq a=g/\(∀d e,mT a d e=Z (mR c d e) λh=>some (.agg h))/\a.je/\cn a=a/\(∀b,qZ b a=G a)/\(∀b f,AX b (f+2) a=G a)/\lr a/\pJ a=true
def qH{f:Type}{a:f->T}(h:∀d e,a d=a e->d=e){b c:List f}:(sl (b.map a)=sl (c.map a))=(b=c):=propext ⟨jD h,λg=>by rw[g]⟩
def EF{d:T}{a:List T}{c:Nat}(f:Oq (.agg a)=c:=by rfl)(g:cn (.agg a)= .agg a:=by simp[yl])(h:∀b,qZ b (.agg a)=G (.agg a):=by intro _;simp)(i:∀b e,AX b (e+2) (.agg a)=G (.agg a):=by intro _ _;simp)(j:lr (.agg a)=true:=by simp)(k:pJ (.agg a)=true:=by simp)(b:d= .agg a:=by rfl):tJ d a c:=by subst b;exact⟨rfl,f,λ_ _=>rfl,rfl,g,h,i,j,k⟩
def Zi(c:ak)(a b:List Int):(sl (a.map (T.int c))=sl (b.map (T.int c)))=(a=b):=qH λ_ _ d=>iC d
def slB(a b:List Bool):(sl (a.map T.bool)=sl (b.map T.bool))=(a=b):=qH λ_ _ c=>iC c
def slS(a b:List (List Nat)):(sl (a.map T.str)=sl (b.map T.str))=(a=b):=qH λ_ _ c=>iC c
def SC{a b:List Nat}:T.str a=T.str b->a=b:=Y 
def GJ{c:ak}{a b:Int}:T.int c a=T.int c b->a=b:=Y 
def FD{f:Type}{a:f->T}(h:∀d e,a d=a e->d=e)(b c:List f)(g:sl (b.map a)=sl (c.map a)):b=c:=jD h g
def Df(b:U)(a:Nat)(c:T):Ty:=⟨b,1,a,false,[c]⟩
def wi(d:List (Nat×Nat))(c a:Nat)(b:Bool)(e:List T):Ty:=⟨.struct d,c,a,b,e⟩
def KI(d c e a:Nat)(b:Bool)(f:List T):Ty:=⟨.array d c,e,a,b,f⟩
@[simp]def ajO (b:U) (a:Nat) (c:T):(Df b a c).size=1/\(Df b a c).bytes=a/\(Df b a c).u=b:=⟨rfl,rfl,rfl⟩
@[simp]def ajT (d:List (Nat×Nat)) (a c:Nat) (e:Bool) (b:List T):(wi d a c e b).size=a/\(wi d a c e b).bytes=c/\(wi d a c e b).u= .struct d/\(wi d a c e b).ls= .agg b/\(wi d a c e b).zero=b/\∀f,lI (wi d a c e b) f=Z (takeN a f) λg=>some (.agg g):=⟨rfl,rfl,rfl,rfl,rfl,λ_=>rfl⟩
@[simp]def ajL (e d a c:Nat) (f:Bool) (b:List T):(KI e d a c f b).size=a/\(KI e d a c f b).bytes=c/\(KI e d a c f b).u= .array e d/\(KI e d a c f b).ls= .agg b/\(KI e d a c f b).zero=b/\∀g,lI (KI e d a c f b) g=Z (takeN a g) λh=>some (.agg h):=⟨rfl,rfl,rfl,rfl,rfl,λ_=>rfl⟩
abbrev Sg(a:ak)(b:Nat):Ty:=Df (.int a) b (.int a 0)
abbrev tyB:Ty:=Df .bool 1 (.bool false)
abbrev tyZ:Ty:=Df .str 16 (.str [])
abbrev Da(a:Nat):Ty:=Df (.slice a) 24 (.fg [] false)
abbrev Sf(a:Nat):Ty:=Df (.ptr a) 8 .mn
@[simp]def ajQ (d:ak) (c:Nat) (b:T):(Df (.int d) c b).ls=b/\∀a,lI (Df (.int d) c b) a=a[0]? :=⟨rfl,λa=>m6 a 0⟩
@[simp]def ajS (c:Nat) (b:T):(Df .bool c b).ls=b/\∀a,lI (Df .bool c b) a=a[0]? :=⟨rfl,λa=>m6 a 0⟩
@[simp]def ajM (c:Nat) (b:T):(Df .str c b).ls=b/\∀a,lI (Df .str c b) a=a[0]? :=⟨rfl,λa=>m6 a 0⟩
@[simp]def ajN (d c:Nat) (b:T):(Df (.slice d) c b).ls=b/\∀a,lI (Df (.slice d) c b) a=a[0]? :=⟨rfl,λa=>m6 a 0⟩
@[simp]def ajP (d c:Nat) (b:T):(Df (.ptr d) c b).ls=b/\∀a,lI (Df (.ptr d) c b) a=a[0]? :=⟨rfl,λa=>m6 a 0⟩
@[simp]def ajR (c:Nat) (b:T):(Df .func c b).ls=b/\∀a,lI (Df .func c b) a=a[0]? :=⟨rfl,λa=>m6 a 0⟩
def jz{b:ai}{cx:Ctx}{d:aj}{a:Func}(e:Nat)(c:DL)(f:b.funcs[d]? =G a)(g:Cy ⟨a,e,false,none⟩=true:=by kernel_rfl)(h:pG c (a.body.getD .skip)=true:=by kernel_rfl):Ea b cx d a e c:=⟨f,g,h⟩
def gq(cx:Ctx)(c:Func)(f:Nat)(e:Bool):sg:=λb g a d=>wM cx b g c f e a d
def aji{a:ai}{cx:Ctx}(g:a.follows .mixedOrders)(j8:jR a cx){e:aj}{b:Func}{d:Nat}{c:Bool}(f:a.funcs[e]? =G b)(h:Cy ⟨b,d,c,none⟩=true:=by kernel_rfl):nR a cx e (gq cx b d c):=sP (F:=⟨b,d,c,none⟩) g j8 f h
end
end Go.TI
namespace Go.Proofs.YtdpclhaknmicoaaGreatDoor
noncomputable section
open Go Go.TI
abbrev KK:Ty:=Sg .i64 8
abbrev EW:Ty:=Sg .i64 8
abbrev Wz:Ty:=tyB
abbrev ty5:Ty:=Sg .u8 1
abbrev ty9:Ty:=tyZ
abbrev aii:Ty:=Sg .i32 4
abbrev aaq:Ty:=Da 5
abbrev aeh:Ty:=Sg .u16 2
abbrev aef:Ty:=Da 206
abbrev aee:Ty:=Da 221
abbrev aec:Ty:=Da 200
abbrev WB:Ty:=Da 9
abbrev aea:Ty:=Da 223
abbrev ad8:Ty:=wi [(0,24),(1,25),(2,26),(3,27),(4,27),(5,28)] 6 144 false [ed,ed,ed,ed,ed,ed]
abbrev ad6:Ty:=Da 144
abbrev ad3:Ty:=Da 4
abbrev QH:Ty:=Da 146
abbrev aap:Ty:=wi [(0,31),(1,3),(2,32),(3,33)] 4 80 false [ed,M 0,ed,ed]
abbrev WA:Ty:=Da 2
abbrev uu:Ty:=Da 3
abbrev adQ:Ty:=wi [(0,35),(4,36),(5,36),(6,37)] 7 152 false [ed,M 0,ed,ed,ed,ed,ed]
abbrev aao:Ty:=Da 114
abbrev adH:Ty:=wi [(0,30),(6,3),(7,39),(14,40)] 15 328 false [ed,ed,ed,ed,ed,ed,M 0,ed,M 0,ed,ed,ed,ed,ed,ed]
abbrev adG:Ty:=wi [(0,3),(1,3),(2,3),(3,3),(4,3),(5,37)] 6 64 false [M 0,M 0,M 0,M 0,M 0,ed]
abbrev fK:Ty:=Da 77
abbrev adF:Ty:=Da 42
abbrev adE:Ty:=Sg .i64 8
abbrev adD:Ty:=wi [(0,30),(6,40)] 7 168 false [ed,ed,ed,ed,ed,ed,ed]
abbrev adC:Ty:=Da 47
abbrev adB:Ty:=Da 132
abbrev adA:Ty:=wi [(0,35),(4,67),(5,67),(6,37),(7,32),(8,37)] 9 200 false [ed,M 0,ed,ed,ed,ed,ed,ed,ed]
abbrev dX:Ty:=wi [(0,69),(9,50)] 10 224 false [ed,M 0,ed,ed,ed,ed,ed,ed,ed,ed]
abbrev eJ:Ty:=Da 73
abbrev M3:Ty:=Df (.map 9 4) 8 (.pV)
abbrev Wy:Ty:=wi [(0,3),(1,3)] 2 16 true [M 0,M 0]
abbrev QG:Ty:=wi [(0,69),(9,50)] 10 224 false [ed,M 0,ed,ed,ed,ed,ed,ed,ed,ed]
abbrev d8:Ty:=Da 85
abbrev adz:Ty:=Da 231
abbrev ady:Ty:=wi [(0,35),(4,36),(5,36),(6,92)] 7 152 false [ed,M 0,ed,ed,ed,ed,ed]
abbrev adx:Ty:=Da 187
abbrev adw:Ty:=wi [(0,30),(6,97)] 7 168 false [ed,ed,ed,ed,ed,ed,ed]
abbrev Zf:Ty:=Da 256
abbrev Ze:Ty:=Da 178
abbrev Zd:Ty:=wi [(0,102),(1,103)] 2 48 false [ed,ed]
abbrev Fx:Ty:=Da 37
abbrev Zc:Ty:=wi [(0,3),(1,3),(2,3),(3,2),(4,3),(5,37),(6,37)] 7 88 false [M 0,M 0,M 0,M 0,M 0,ed,ed]
abbrev Zb:Ty:=Da 35
abbrev Za:Ty:=wi [(0,42),(15,116)] 16 352 false [ed,ed,ed,ed,ed,ed,M 0,ed,M 0,ed,ed,ed,ed,ed,ed,ed]
abbrev SA:Ty:=KI 2 37 2 48 false (List.replicate 2 (T.fg [] false))
abbrev yA:Ty:=wi [(0,2),(1,4)] 2 16 true [M 0,.bool false]
abbrev aeo:Ty:=Df (.func) 8 (.mF)
abbrev Y9:Ty:=Df (.func) 8 (.mF)
abbrev Y8:Ty:=wi [(0,3),(1,37)] 2 32 false [M 0,ed]
abbrev Fw:Ty:=wi [(0,3),(1,3),(2,4)] 3 24 true [M 0,M 0,.bool false]
abbrev Sz:Ty:=KI 2 67 2 48 false (List.replicate 2 (T.fg [] false))
abbrev aen:Ty:=Da 251
abbrev aem:Ty:=Sf 168
abbrev ael:Ty:=wi [(0,163),(1,3)] 2 32 false [ed,M 0]
abbrev aek:Ty:=Sf 181
abbrev Pa:Ty:=Da 244
abbrev Y7:Ty:=wi [(0,9),(1,3),(2,27),(3,176)] 4 72 false [.str [],M 0,ed,ed]
abbrev Y6:Ty:=Da 185
abbrev Y5:Ty:=wi [(0,30),(6,27),(7,179),(8,3),(9,3)] 10 208 false [ed,ed,ed,ed,ed,ed,ed,ed,M 0,M 0]
abbrev Y4:Ty:=wi [(0,3),(1,3),(2,3),(3,3),(4,2),(5,3)] 6 48 false [M 0,M 0,M 0,M 0,M 0,M 0]
abbrev Y3:Ty:=wi [(0,3),(1,179)] 2 32 false [M 0,ed]
abbrev aej:Ty:=Df (.func) 8 (.mF)
abbrev aei:Ty:=Df (.func) 8 (.mF)
abbrev Y2:Ty:=wi [(0,9),(1,3)] 2 24 false [.str [],M 0]
abbrev Y1:Ty:=wi [(0,9),(1,3),(2,3),(3,4),(4,2)] 5 48 false [.str [],M 0,M 0,.bool false,M 0]
abbrev Y0:Ty:=wi [(0,9),(1,4)] 2 24 false [.str [],.bool false]
abbrev YZ:Ty:=wi [(0,3),(1,3),(2,3)] 3 24 false [M 0,M 0,M 0]
abbrev O9:Ty:=wi [(0,3),(1,36),(2,111),(3,3)] 4 64 false [M 0,ed,ed,M 0]
abbrev aeg:Ty:=Sf 237
abbrev YY:Ty:=Sf 235
abbrev YX:Ty:=wi [(0,22),(1,3)] 2 32 false [ed,M 0]
abbrev YW:Ty:=wi [(0,233),(1,3),(2,3),(3,4),(4,4),(5,4),(6,4),(7,27)] 8 56 false [.mn,M 0,M 0,.bool false,.bool false,.bool false,.bool false,ed]
abbrev YV:Ty:=Da 242
abbrev YU:Ty:=wi [(0,3),(1,2),(2,9),(3,240)] 4 56 false [M 0,M 0,.str [],ed]
abbrev KJ:Ty:=wi [(0,3),(1,3),(2,9),(3,9),(4,240),(5,242),(9,176),(10,176)] 11 176 false [M 0,M 0,.str [],.str [],ed,M 0,M 0,.str [],ed,ed,ed]
abbrev aed:Ty:=wi [(0,3),(1,9),(2,3)] 3 32 false [M 0,.str [],M 0]
abbrev YT:Ty:=wi [(0,3),(1,3),(2,9),(3,3),(4,2),(5,9)] 6 64 false [M 0,M 0,.str [],M 0,M 0,.str []]
abbrev aeb:Ty:=Sf 266
abbrev YS:Ty:=wi [(0,105),(2,3),(3,176),(4,27),(5,27)] 6 128 false [ed,ed,M 0,ed,ed,ed]
abbrev Sy:Ty:=Sg .u64 8
abbrev Ij:Ty:=Sg .u64 8
abbrev ad9:Ty:=Sf 256
abbrev ad7:Ty:=Sg .i64 8
abbrev ad5:Ty:=Sg .u32 4
abbrev ad4:Ty:=KI 24 5 24 24 false (List.replicate 24 (T.int .u8 0))
abbrev ad2:Ty:=Sg .u64 8
abbrev ad1:Ty:=Sf 3
abbrev ad0:Ty:=KI 20 280 20 160 false (List.replicate 20 (T.int .u64 0))
abbrev Ft:Ty:=KI 65 5 65 65 false (List.replicate 65 (T.int .u8 0))
abbrev adZ:Ty:=KI 22 9 22 352 false (List.replicate 22 (T.str []))
abbrev adY:Ty:=KI 256 4 256 256 false (List.replicate 256 (T.bool false))
abbrev adX:Ty:=Sf 357
abbrev adW:Ty:=Df (.iface) 16 (.mN)
abbrev adV:Ty:=Sf 244
abbrev adU:Ty:=Df (.func) 8 (.mF)
abbrev adT:Ty:=KI 32 5 32 32 false (List.replicate 32 (T.int .u8 0))
abbrev adS:Ty:=KI 64 5 64 64 false (List.replicate 64 (T.int .u8 0))
abbrev adR:Ty:=Sg .i64 8
abbrev adP:Ty:=Sf 403
abbrev adO:Ty:=KI 256 5 256 256 false (List.replicate 256 (T.int .u8 0))
abbrev adN:Ty:=wi [(0,5),(1,5)] 2 2 false [.int .u8 0,.int .u8 0]
abbrev adM:Ty:=KI 16 396 32 32 false (List.replicate 32 (T.int .u8 0))
abbrev adL:Ty:=wi [(0,9),(1,9),(2,363)] 3 48 false [.str [],.str [],.mN]
abbrev adK:Ty:=Sf 5
abbrev adJ:Ty:=Sf 408
abbrev adI:Ty:=wi [(0,9)] 1 16 false [.str []]
def j8:Tree Ty:=(.node (.node (.node (.node (.node (.node (.node .nil 2 (KK) .nil) 3 (EW) (.node .nil 4 (Wz) .nil)) 5 (ty5) (.node (.node .nil 9 (ty9) .nil) 21 (aii) .nil)) 22 (aaq) (.node (.node (.node .nil 23 (aeh) .nil) 24 (aef) (.node .nil 25 (aee) .nil)) 26 (aec) (.node (.node .nil 27 (WB) .nil) 28 (aea) .nil))) 30 (ad8) (.node (.node (.node (.node .nil 31 (ad6) .nil) 32 (ad3) (.node .nil 33 (QH) .nil)) 35 (aap) (.node (.node .nil 36 (WA) .nil) 37 (uu) .nil)) 39 (adQ) (.node (.node (.node .nil 40 (aao) .nil) 42 (adH) (.node .nil 47 (adG) .nil)) 50 (fK) (.node (.node .nil 55 (adF) .nil) 56 (adE) .nil)))) 60 (adD) (.node (.node (.node (.node (.node .nil 63 (adC) .nil) 67 (adB) (.node .nil 69 (adA) .nil)) 73 (dX) (.node (.node .nil 74 (eJ) .nil) 75 (M3) .nil)) 77 (Wy) (.node (.node (.node .nil 85 (QG) .nil) 86 (d8) (.node .nil 92 (adz) .nil)) 94 (ady) (.node (.node .nil 97 (adx) .nil) 99 (adw) .nil))) 102 (Zf) (.node (.node (.node (.node .nil 103 (Ze) .nil) 105 (Zd) (.node .nil 111 (Fx) .nil)) 114 (Zc) (.node (.node .nil 116 (Zb) .nil) 118 (Za) .nil)) 122 (SA) (.node (.node (.node .nil 132 (yA) .nil) 139 (aeo) (.node .nil 141 (Y9) .nil)) 144 (Y8) (.node (.node .nil 146 (Fw) .nil) 147 (Sz) .nil))))) 163 (aen) (.node (.node (.node (.node (.node (.node .nil 166 (aem) .nil) 168 (ael) (.node .nil 175 (aek) .nil)) 176 (Pa) (.node (.node .nil 178 (Y7) .nil) 179 (Y6) .nil)) 181 (Y5) (.node (.node (.node .nil 185 (Y4) .nil) 187 (Y3) (.node .nil 190 (aej) .nil)) 197 (aei) (.node (.node .nil 200 (Y2) .nil) 206 (Y1) .nil))) 221 (Y0) (.node (.node (.node (.node .nil 223 (YZ) .nil) 231 (O9) (.node .nil 232 (aeg) .nil)) 233 (YY) (.node (.node .nil 235 (YX) .nil) 237 (YW) .nil)) 240 (YV) (.node (.node (.node .nil 242 (YU) .nil) 244 (KJ) (.node .nil 251 (aed) .nil)) 256 (YT) (.node (.node .nil 264 (aeb) .nil) 266 (YS) .nil)))) 278 (Sy) (.node (.node (.node (.node (.node .nil 280 (Ij) .nil) 294 (ad9) (.node .nil 307 (ad7) .nil)) 315 (ad5) (.node (.node .nil 318 (ad4) .nil) 342 (ad2) .nil)) 346 (ad1) (.node (.node (.node .nil 349 (ad0) .nil) 350 (Ft) (.node .nil 354 (adZ) .nil)) 357 (adY) (.node (.node .nil 361 (adX) .nil) 363 (adW) .nil))) 367 (adV) (.node (.node (.node (.node .nil 368 (adU) .nil) 384 (adT) (.node .nil 385 (adS) .nil)) 387 (adR) (.node (.node .nil 390 (adP) .nil) 394 (adO) .nil)) 396 (adN) (.node (.node (.node .nil 397 (adM) .nil) 403 (adL) .nil) 405 (adK) (.node (.node .nil 406 (adJ) .nil) 408 (adI) .nil))))))
def kl0:List Int:=[1,10,100,1000,10000,100000,1000000,10000000,100000000,1000000000,10000000000,100000000000,1000000000000,10000000000000,100000000000000,1000000000000000,10000000000000000,100000000000000000,1000000000000000000,10000000000000000000]
def gl0:List T:=kl0.map (T.int .u64)
def gl1:List T:=[T.str [118,97,114],T.str [118,111,108,97,116,105,108,101],T.str [109,117,116,101,120],T.str [114,119,108,111,99,107],T.str [99,111,110,100],T.str [102,117,116,117,114,101],T.str [116,104,114,101,97,100],T.str [105,102],T.str [101,108,115,101],T.str [119,104,105,108,101],T.str [108,111,99,107],T.str [114,101,97,100],T.str [119,114,105,116,101],T.str [116,114,97,110,115,97,99,116,105,111,110],T.str [97,116,111,109,105,99],T.str [119,97,105,116],T.str [110,111,116,105,102,121],T.str [110,111,116,105,102,121,97,108,108],T.str [115,112,97,119,110],T.str [106,111,105,110],T.str [115,101,116],T.str [103,101,116]]
def kl3:List Int:=[0,1,28,2,29,14,24,3,30,22,20,15,25,17,4,8,31,27,13,23,21,19,16,7,26,12,18,6,11,5,10,9]
def gl3:List T:=kl3.map (T.int .u8)
def kl4:List Int:=[0,1,56,2,57,49,28,3,61,58,42,50,38,29,17,4,62,47,59,36,45,43,51,22,53,39,33,30,24,18,12,5,63,55,48,27,60,41,37,16,46,35,44,21,52,32,23,11,54,26,40,15,34,20,31,10,25,14,19,9,13,8,7,6]
def gl4:List T:=kl4.map (T.int .u8)
def gls:Tree (List T):=(.node (.node (.node .nil 0 (gl0) .nil) 1 (gl1) .nil) 3 (gl3) (.node .nil 4 (gl4) .nil))
def cx:Ctx:={ty:=λb=>j8.find b,fn:=λ_=>none,gl:=λa=>gls.find a}
@[simp]def CS:cx.ty 2=G KK:=em
@[simp]def nL:cx.ty 3=G EW:=em
@[simp]def I3:cx.ty 4=G Wz:=em
@[simp]def A2:cx.ty 5=G ty5:=em
@[simp]def xO:cx.ty 9=G ty9:=em
@[simp]def zO:cx.ty 22=G aaq:=em
@[simp]def U6:cx.ty 23=G aeh:=em
@[simp]def ab0:cx.ty 24=G aef:=em
@[simp]def U5:cx.ty 25=G aee:=em
@[simp]def abZ:cx.ty 26=G aec:=em
@[simp]def uH:cx.ty 27=G WB:=em
@[simp]def abY:cx.ty 28=G aea:=em
@[simp]def ajw:cx.ty 30=G ad8:=em
@[simp]def On:cx.ty 31=G ad6:=em
@[simp]def Hg:cx.ty 32=G ad3:=em
@[simp]def J7:cx.ty 33=G QH:=em
@[simp]def abX:cx.ty 35=G aap:=em
@[simp]def tv:cx.ty 36=G WA:=em
@[simp]def kS:cx.ty 37=G uu:=em
@[simp]def ajv:cx.ty 39=G adQ:=em
@[simp]def abW:cx.ty 40=G aao:=em
@[simp]def abV:cx.ty 42=G adH:=em
@[simp]def U4:cx.ty 47=G adG:=em
@[simp]def BL:cx.ty 50=G fK:=em
@[simp]def abU:cx.ty 55=G adF:=em
@[simp]def aju:cx.ty 56=G adE:=em
@[simp]def ajt:cx.ty 60=G adD:=em
@[simp]def U3:cx.ty 63=G adC:=em
@[simp]def BK:cx.ty 67=G adB:=em
@[simp]def ajs:cx.ty 69=G adA:=em
@[simp]def abT:cx.ty 73=G dX:=em
@[simp]def abS:cx.ty 74=G eJ:=em
@[simp]def Om:cx.ty 75=G M3:=em
@[simp]def DY:cx.ty 77=G Wy:=em
@[simp]def abR:cx.ty 85=G QG:=em
@[simp]def abQ:cx.ty 86=G d8:=em
@[simp]def U2:cx.ty 92=G adz:=em
@[simp]def ajr:cx.ty 94=G ady:=em
@[simp]def abP:cx.ty 97=G adx:=em
@[simp]def ajq:cx.ty 99=G adw:=em
@[simp]def ahO:cx.ty 102=G Zf:=em
@[simp]def X9:cx.ty 103=G Ze:=em
@[simp]def ahN:cx.ty 105=G Zd:=em
@[simp]def P0:cx.ty 111=G Fx:=em
@[simp]def X8:cx.ty 114=G Zc:=em
@[simp]def X7:cx.ty 116=G Zb:=em
@[simp]def ahM:cx.ty 118=G Za:=em
@[simp]def ahL:cx.ty 122=G SA:=em
@[simp]def CU:cx.ty 132=G yA:=em
@[simp]def ahK:cx.ty 141=G Y9:=em
@[simp]def J9:cx.ty 144=G Y8:=em
@[simp]def J8:cx.ty 146=G Fw:=em
@[simp]def ahJ:cx.ty 147=G Sz:=em
@[simp]def CT:cx.ty 176=G Pa:=em
@[simp]def X6:cx.ty 178=G Y7:=em
@[simp]def PZ:cx.ty 179=G Y6:=em
@[simp]def ahI:cx.ty 181=G Y5:=em
@[simp]def X5:cx.ty 185=G Y4:=em
@[simp]def X4:cx.ty 187=G Y3:=em
@[simp]def X3:cx.ty 200=G Y2:=em
@[simp]def X2:cx.ty 206=G Y1:=em
@[simp]def PY:cx.ty 221=G Y0:=em
@[simp]def X1:cx.ty 223=G YZ:=em
@[simp]def PX:cx.ty 231=G O9:=em
@[simp]def ahH:cx.ty 233=G YY:=em
@[simp]def ahG:cx.ty 235=G YX:=em
@[simp]def ahF:cx.ty 237=G YW:=em
@[simp]def ahE:cx.ty 240=G YV:=em
@[simp]def ahD:cx.ty 242=G YU:=em
@[simp]def CR:cx.ty 244=G KJ:=em
@[simp]def ahC:cx.ty 256=G YT:=em
@[simp]def ahB:cx.ty 266=G YS:=em
@[simp]def X0:cx.ty 278=G Sy:=em
@[simp]def PW:cx.ty 280=G Ij:=em
@[simp]def ahA:cx.ty 350=G Ft:=em
