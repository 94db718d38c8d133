/- TiQuick -/
import Derived.Test.YtmoiekepclmgbaaGreatDoorA5
import Derived.KernelRfl
set_option linter.all false
namespace Go.TI
noncomputable section
section
def Uw(a:Fun):Code:=Option.casesOn a.fn.body .skip λb=>b
section
variable {J nt:Nat}{K:List Nat}{pre:List T}
end
section
variable {P:List T->Prop}
end
end
mutual
def Am:T->T->Bool
 | .undef,a=>(match a with| .undef=>true|_=>false)
 | .bool y,a=>(match a with| .bool n=>Bool.casesOn y (!n) n|_=>false)
 | .int o q,a=>(match a with| .int p r=>decide (o=p)&&decide (q=r)|_=>false)
 | .str s,a=>(match a with| .str t=>decide (s=t)|_=>false)
 | .lr,a=>(match a with| .lr=>true|_=>false)
 | .lV,a=>(match a with| .lV=>true|_=>false)
 | .ma,a=>(match a with| .ma=>true|_=>false)
 | .po,a=>(match a with| .po=>true|_=>false)
 | .iO,a=>(match a with| .iO=>true|_=>false)
 | .ptr a h j l,b=>(match b with| .ptr d i k m=>Nat.beq a d&&Nat.beq h i&&Nat.beq j k&&Nat.beq l m|_=>false)
 | .arr a h j l g,b=>(match b with| .arr d i k m c=>Nat.beq a d&&Nat.beq h i&&Nat.beq j k&&Nat.beq l m&&Bool.casesOn g (!c) c|_=>false)
 | .map a,b=>(match b with| .map d=>Nat.beq a d|_=>false)
 | .ed e g,b=>(match b with| .ed f c=>Dj e f&&Bool.casesOn g (!c) c|_=>false)
 | .agg e,b=>(match b with| .agg f=>Dj e f|_=>false)
 | .func g e,b=>(match b with| .func c f=>Nat.beq g c&&Dj e f|_=>false)
 | .iface u w,b=>(match b with| .iface v x=>Nat.beq u v&&Am w x|_=>false)
 |_,_=>false
def Dj:List T->List T->Bool
 | [],a=>(match a with| []=>true|_=>false)
 |x::b,a=>(match a with|y::c=>Am x y&&Dj b c|_=>false)
end
def M6{b a:Bool}(c:(@Bool.rec (λ_=>Bool) (!a) a b)=true):b=a:=by cases b<;>cases a<;>simp_all
mutual
def MM:(h b:T)->Am h b=true->h=b
 | .undef,b,a=>by cases b<;>first|rfl|simp[Am]at a
 | .bool z,b,a=>by
  cases b<;>first|(simp[Am]at a;done)|skip
  rename_i n;have a:(@Bool.rec (λ_=>Bool) (!n) n z)=true:=by grind [Am]
  rw[M6 a]
 | .int A B,b,a=>by cases b<;>simp[Am]at a;grind
 | .str C,b,a=>by cases b<;>simp[Am]at a;grind
 | .lr,b,a=>by cases b<;>first|rfl|simp[Am]at a
 | .lV,b,a=>by cases b<;>first|rfl|simp[Am]at a
 | .ma,b,a=>by cases b<;>first|rfl|simp[Am]at a
 | .po,b,a=>by cases b<;>first|rfl|simp[Am]at a
 | .iO,b,a=>by cases b<;>first|rfl|simp[Am]at a
 | .ptr b i j k,c,a=>by cases c<;>simp[Am]at a;grind
 | .arr b i j k g,c,a=>by
  cases c<;>first|(simp[Am]at a;done)|skip
  rename_i o p v w f;have a:(Nat.beq b o&&Nat.beq i p&&Nat.beq j v&&Nat.beq k w&& @Bool.rec (λ_=>Bool) (!f) f g)=true:=by grind [Am]
  simp only[ax]at a;obtain⟨⟨⟨⟨q,r⟩,s⟩,t⟩,u⟩:=a;rw[aF q,aF r,aF s,aF t,M6 u]
 | .map b,c,a=>by cases c<;>simp[Am]at a;grind
 | .ed d g,c,a=>by
  cases c<;>first|(simp[Am]at a;done)|skip
  rename_i e f;have a:(Dj d e&& @Bool.rec (λ_=>Bool) (!f) f g)=true:=by grind [Am]
  simp only[ax]at a;rw[DH d e a.1,M6 a.2]
 | .agg d,c,a=>by
  cases c<;>first|(simp[Am]at a;done)|skip
  rename_i e;have a:Dj d e=true:=by grind [Am]
  rw[DH d e a]
 | .func g d,c,a=>by
  cases c<;>first|(simp[Am]at a;done)|skip
  rename_i f e;have a:(Nat.beq g f&&Dj d e)=true:=by grind [Am]
  simp only[ax]at a;rw[aF a.1,DH d e a.2]
 | .iface x l,c,a=>by
  cases c<;>first|(simp[Am]at a;done)|skip
  rename_i y m;have a:(Nat.beq x y&&Am l m)=true:=by grind [Am]
  simp only[ax]at a;rw[aF a.1,MM l m a.2]
 | .j9 _,b,a=>by grind [Am]
 | .iter _,b,a=>by grind [Am]
 | .tuple _,b,a=>by grind [Am]
def DH:(c a:List T)->Dj c a=true->c=a
 | [],a,b=>by cases a<;>first|rfl|grind [Dj]
 |x::d,a,b=>by
  cases a<;>first|(simp[Dj]at b;done)|skip
  rename_i e f;have b:(Am x e&&Dj d f)=true:=by grind [Dj]
  simp only[ax]at b;rw[MM x e b.1,DH d f b.2]
end
structure Ent where
 f:Nat
 args:List T
 h:H
 r:T
 h':H
def rm(d:ai)(cx:Ctx)(a:Ent):Prop:=
 ∀e b c (g:af am),St cx e b.heap c a.h->iJ b.heap c a.args g.toList->BI d (sS cx e b c a.h a.r a.h') ((callFunc a.f g).run d b)
mutual
def oc:T->Bool
 | .undef| .bool _| .int _ _| .str _| .lr| .iO| .lV| .ma| .po=>true
 | .ed a _=>m7 a
 | .agg a=>m7 a
 | .tuple a=>m7 a
 | .j9 a=>m7 a
 | .func _ a=>m7 a
 | .iface _ b=>oc b
 |_=>false
def m7:List T->Bool
 | []=>true
 |x::a=>oc x&&m7 a
end
mutual
def EX:(c:T)->oc c=true->rj 0 c
 | .undef,_=> .undef
 | .bool _,_=> .bool _
 | .int _ _,_=> .int _ _
 | .str _,_=> .str _
 | .lr,_=> .lr
 | .iO,_=> .iO
 | .lV,_=> .lV
 | .ma,_=> .ma
 | .po,_=> .po
 | .ed a h,b=> .ed _ _ λc f=>by
  have⟨d,e,g⟩:=List.mem_flatMap.1 f;exact(mc a (by grind [oc]) d e).cells c g
 | .agg a,b=> .agg _ (mc a (by grind [oc]))
 | .tuple a,b=> .tuple _ (mc a (by grind [oc]))
 | .j9 a,b=> .j9 _ (mc a (by grind [oc]))
 | .func _ a,b=> .func _ _ (mc a (by grind [oc]))
 | .iface _ c,b=> .iface _ _ (EX c (by grind [oc]))
 | .ptr _ _ _ _,b=>by grind [oc]
 | .arr _ _ _ _ _,b=>by grind [oc]
 | .iter _,b=>by grind [oc]
 | .map _,b=>by grind [oc]
def mc:(d:List T)->m7 d=true->∀c∈d,rj 0 c
 | [],_=>λc b=>by grind
 |x::g,a=>λc b=>by
  unfold m7 at a;rw[ax]at a;have e:=EX x a.1;rcases List.mem_cons.1 b with f|b
  ·rw[f];exact e
  ·exact mc g a.2 c b
end
def gW.move{y:af Obj}{z A:Mu}{b:T}{l:am}(a:gW y z b l)(x:∀n,oU A n->oU z n)(hl:rj 0 b):gW y A b l:=by
 induction a with
 |undef=>exact .undef
 |bool h=>exact .bool h
 |int c L=>exact .int c L
 |str M a=>exact .str M a
 |lr=>exact .lr
 |ptr h E n R o g s I Q=>cases hl with|ptr _ _ _ _ a=>omega
 |j9 r p off arr k fz u t f j hr e=>
  cases hl with|j9 _ a=>exact .j9 r p off arr k fz (λc=>u (x _ c)) t f j λc b d=>e c b d (a b (ay d))
 |ph m g=>exact .ph m g
 |ed C F m p off q N arr k fz u t w J K f j hr e=>
  cases hl with|ed _ _ a=>exact .ed C F m p off q N arr k fz (λc=>u (x _ c)) t w J K f j λc b d=>e c b d (a b (ay d))
 |iO g q=>exact .iO g q
 |arr h E U S m o g P s I w v=>cases hl with|arr _ _ _ _ _ a=>omega
 |func H B i f hr e=>cases hl with|func _ _ a=>exact .func H B i f λc b d=>e c b d (a b (ay d))
 |lV=>exact .lV
 |ma=>exact .ma
 |iface k b l a e=>cases hl with|iface _ _ a=>exact .iface k b l (e a)
 |iter h o g s v=>cases hl with|iter _ a=>omega
 |map h o n s v=>cases hl with|map _ a=>omega
 |po=>exact .po
 |agg r i f j hr e=>cases hl with|agg _ a=>exact .agg r i f j λc b d=>e c b d (a b (ay d))
 |tuple O i f hr e=>cases hl with|tuple _ a=>exact .tuple O i f λc b d=>e c b d (a b (ay d))
def mp(d:ai)(cx:Ctx)(h:Nat)(g:List T)(i:T):Prop:=
 ∀e a c (f:af am) (b:H),St cx e a.heap c b->iJ a.heap c g f.toList->BI d (sS cx e a c b i b) ((callFunc h f).run d a)
def Ey{s:ai}{cx:Ctx}{u:Nat}{k:List T}{z:T}{v:H}(hl:∀i∈k,rj 0 i)(M:v.size=0)(E:rm s cx ⟨u,k,⟨0,0,[]⟩,z,v⟩):mp s cx u k z:=by
 intro U h f t V e w;have q:∀a,oU ⟨λ_=>none,oU f⟩ a->oU f a:=by
  rintro a (⟨d,b,c,_⟩|hr)
  ·grind
  omega
 have F:∀a,oU f a->a<h.heap.size:=by
  rintro a (⟨d,b,c,rfl⟩|hr)
  ·exact e.lt c
  ·exact e.sY a hr
 have O:St cx h.heap.size h.heap ⟨λ_=>none,oU f⟩ ⟨0,0,[]⟩:=by
  refine⟨rfl,au _,λd b c=>by grind,λd S b R c=>by simp,λd b c=>by grind,λd b c=>by grind,λa hr=>F a hr,λn m p=>?_⟩;have:=e.Bl n m p;refine this.move q ?_;have⟨_,_,_,_,_,_,_,_,_,K,_⟩:=this.m9;exact .j9 _ λi l=>(K i l).2.low 0
 have B:iJ h.heap ⟨λ_=>none,oU f⟩ k t.toList:=⟨w.1,λr i l=>(w.2 r i l).move q (hl i (ay l))⟩;refine(E h.heap.size h ⟨λ_=>none,oU f⟩ t O B).mono λi A ⟨⟨Q,y,N,g,W⟩,X⟩=>?_;have J:∀a,oU f a->oU Q a:=λa j=> .inr (by rw[g.ext.qD];exact j);have o:Ext h.heap f A.heap f:=by
  refine⟨g.ext.size,λa j x=>⟨(g.ext.o7 a j (λr=>x (q a r))).1,x⟩,λd b c=>⟨b,c,.inl rfl⟩,rfl,λa j hr=>?_⟩;exact g.ext.kept a j (.inr hr)
 have C:∀d b,f d=some b->A.heap[b.jz]? =h.heap[b.jz]? :=λd b c=>g.ext.kept b.jz (e.lt c) (.inl ⟨d,b,c,rfl⟩);refine⟨⟨f,y.move J (y.low λd b c=>M▸N.fG c),⟨e.wf,aQ e.fit g.ext.size,λd b c=>?_,e.inj,e.low,e.apart,λa hr=>bF (e.sY a hr) g.ext.size,λn m p=>(e.Bl n m p).ext o⟩,⟨o,g.os,g.tape,g.output⟩,Ax.refl _ _⟩,mz.refl e.wf⟩;have⟨P,L,I⟩:=e.box d b c;exact⟨P,L,I.ext o (C d b c)⟩
def CZ:List T->List T->Bool
 | [],a=>(match a with| []=>true|_=>false)
 |x::b,a=>(match a with|y::c=>CZ b c&&Am x y|_=>false)
def AV{b:ai}{cx:Ctx}{c:Nat}{a:List T}{d:T}(hl:∀f∈a,rj 0 f)(e:rm b cx ⟨c,a,⟨0,0,[]⟩,d,⟨0,0,[]⟩⟩):mp b cx c a d:=Ey hl rfl e
def TK:∀(b a:List T),CZ b a=true->b=a:=by
 intro b;induction b with
 |nil=>intro a c;cases a<;>first|rfl|grind [CZ]
 |cons f g d=>
  intro a c;cases a with
  |nil=>grind [CZ]
  |cons h e=>
   simp only[CZ,ax]at c;rw[MM _ _ c.2,d e c.1]
abbrev xF:=List (Nat×List (List T×T))
def Ht(e:List (List T×T))(b:List T):aa T:=
 @List.rec (List T×T) (λ_=>aa T) none (λc _ d=>Prod.casesOn c λa f=> @Bool.rec (λ_=>aa T) d (some f) (CZ b a)) e
def CY(h:xF)(d:Nat)(b:List T):aa T:=
 @List.rec (Nat×List (List T×T)) (λ_=>aa T) none (λc _ a=>Prod.casesOn c λe f=> @Bool.rec (λ_=>aa T) a (Option.casesOn (Ht f b) a λg=>some g) (Nat.beq d e)) h
inductive Aw (P:ai) (cx:Ctx):xF->Prop where
 |nil:Aw P cx []
 |new {f:Nat} {t:xF}:Aw P cx t->Aw P cx ((f,[])::t)
 |ent {f:Nat} {a:List T} {r:T} {l:List (List T×T)} {t:xF}:mp P cx f a r->Aw P cx ((f,l)::t)->Aw P cx ((f,(a,r)::l)::t)
def Aw.mem{a:ai}{cx:Ctx}{f:xF}(g:Aw a cx f):∀c d,(c,d)∈f->∀b e,(b,e)∈d->mp a cx c b e:=by
 induction g with
 |nil=>simp
 |new _ h=>
  grind
 |ent i _ h=>
  grind
theorem Qq{c:List (List T×T)}{b:List T}{d:T}(a:Ht c b=some d):(b,d)∈c:=by
 induction c with
 |nil=>grind [Ht]
 |cons g c h=>
  obtain⟨f,r1⟩:=g;have a: @Bool.rec (λ_=>aa T) (Ht c b) (some r1) (CZ b f)=some d:=a;cases e:CZ b f with
  |false=>rw[e]at a;grind
  |true=>
   rw[e]at a;have a:some r1=some d:=a;simp only[ar]at a;subst a;rw[TK _ _ e];simp
def Qp{e:xF}{c:Nat}{b:List T}{d:T}(a:CY e c b=some d):∃f,(c,f)∈e/\(b,d)∈f:=by
 induction e with
 |nil=>grind [CY]
 |cons k e m=>
  obtain⟨g,f⟩:=k;have a: @Bool.rec (λ_=>aa T) (CY e c b) (@Option.rec T (λ_=>aa T) (CY e c b) (λd=>some d) (Ht f b)) (Nat.beq c g)=some d:=a;have o:CY e c b=some d->∃j,(c,j)∈(g,f)::e/\(b,d)∈j:=λn=>by
   grind
  cases h:Nat.beq c g with
  |false=>rw[h]at a;grind
  |true=>
   rw[h]at a;cases i:Ht f b with
   |none=>rw[i]at a;grind
   |some l=>
    rw[i]at a;have a:some l=some d:=a;simp only[ar]at a;subst a;rw[aF h]
    grind [Qq,List.mem_cons_self]
def Tl(h:xF)(ft:aj->aa sw):aj->aa sw:=λb=>
 Option.casesOn (ft b) none λe=>some λd f a c=>Option.casesOn (CY h b a) (e d f a c) λg=>some (g,c)
def Tk{i:ai}{cx:Ctx}{h:xF}{ft:aj->aa sw}(y:Aw i cx h)(z:∀a c,ft a=some c->nG i cx a c):∀a c,Tl h ft a=some c->nG i cx a c:=by
 intro a c f;unfold Tl at f;cases k:ft a with
 |none=>rw[k]at f;grind
 |some o=>
  rw[k]at f;simp only[ar]at f;subst f;intro n v q d e g j b l t u m s p;have b: @Option.rec T (λ_=>aa (T×H)) (o n q d e) (λg=>some (g,e)) (CY h a d)=some (g,j):=b;cases hE:CY h a d with
  |none=>rw[hE]at b;exact z a o k n v q d e g j b l t u m s p
  |some r=>
   rw[hE]at b;have b:some (r,e)=some (g,j):=b;simp only[ar,aB]at b;obtain⟨rfl,rfl⟩:=b;have⟨A,w,x⟩:=Qp hE;exact y.mem a A w d r x l t u m e s p
def zG(b:xF)(ft:aj->aa sw)(a:Nat):jB:=K0 (Tl b ft) a
def KZ{a:ai}{cx:Ctx}{e:xF}{ft:aj->aa sw}(f:Aw a cx e)(g:∀b c,ft b=some c->nG a cx b c)(d:Nat):o6 a cx (zG e ft d):=C0 (Tk f g) d
def Aw.next{c:ai}{cx:Ctx}{f:xF}{ft:aj->aa sw}(n:∀a g,ft a=some g->nG c cx a g){i:Nat}{a:Nat}{d:List (List T×T)}(h:Aw c cx ((a,d)::f)){b:List T}{e:T}
 (hl:m7 b=true) (m:zG ((a,d)::f) ft i a b ⟨0,0,[]⟩=some (e,⟨0,0,[]⟩)):Aw c cx ((a,(b,e)::d)::f):=
 .ent (AV (mc b hl) λj p q k o l=>KZ h n i a b ⟨0,0,[]⟩ e ⟨0,0,[]⟩ m j p q k o l) h
section
def put(a:iz)(b:Nat)(d:T):iz:=(mX a b d).getD a
def qQ(d:iz)(a:Nat)(c:T):mX d a c=some (put d a c):=by
 have:∃b,mX d a c=some b:=by
  induction d with
  |nil=>exact⟨_,rfl⟩
  |cons e i b g=>
   obtain⟨h,ht⟩:=g;cases f:Nat.beq e a with
   |true=>exact⟨.cons e c b,by show @Bool.rec (λ_=>aa iz) _ _ (Nat.beq e a)=_;rw[f]⟩
   |false=>simp_all[mX,Z]
 obtain⟨b,hr⟩:=this;rw[hr];unfold put;rw[hr];rfl
def nC(b:Nat)(d:T)(c:iz)(a:Nat):d8 (.cons b d c) a=if b=a then some d else d8 c a:=by
 show @Bool.rec (λ_=>aa T) (d8 c a) (some d) (Nat.beq b a)=_;cases e:Nat.beq b a with
 |true=>rw[aq (aF e)]
 |false=>rw[ao (cY e)]
def Hj(a:Nat):d8 .nil a=none:=rfl
def Tq(g:iz)(b:Nat)(c:T)(i:Nat):d8 (put g b c) i=if b=i then some c else d8 g i:=by
 have a:=qQ g b c;generalize put g b c=f at a;induction g generalizing f with
 |nil=>
  have a:some (iz.cons b c .nil)=some f:=a;simp only[ar]at a;subst a;rw[nC,Hj]
 |cons e j d k=>
  have a: @Bool.rec (λ_=>aa iz) (Z (mX d b c) λd=>some (.cons e j d)) (some (.cons e c d)) (Nat.beq e b)=some f:=a;cases h:Nat.beq e b with
  |true=>
   rw[h]at a;have a:some (iz.cons e c d)=some f:=a;simp only[ar]at a;subst a;have:=aF h;subst this;simp only[nC];split<;>rfl
  |false=>
   rw[h]at a;have a:(Z (mX d b c) λd=>some (iz.cons e j d))=some f:=a;rw[qQ]at a;simp only[eJ,ar]at a;subst a;have:=cY h;rw[nC,nC,k _ (qQ _ _ _)]
   grind
structure jp where
 n:Env->H->Prop
 x:Nat->Env->H->Prop
 r:Env->H->Prop
def W(f:Out)(c:jp):Prop:=∃d a b,f=some (d,a,b)/\Ex.casesOn d (c.n a b) (λe=>c.x e a b) (c.r a b)
@[simp]def F1 (a:Env) (b:H) (d:jp):W (some (.normal,a,b)) d=d.n a b:=by
 apply propext;constructor
 ·rintro⟨h,f,g,e,c⟩;simp only[ar,aB]at e;obtain⟨rfl,rfl,rfl⟩:=e;exact c
 ·exact λc=>⟨_,a,b,rfl,c⟩
@[simp]def I1 (f:Nat) (a:Env) (b:H) (d:jp):W (some (.exit f,a,b)) d=d.x f a b:=by
 apply propext;constructor
 ·rintro⟨i,g,h,e,c⟩;simp only[ar,aB]at e;obtain⟨rfl,rfl,rfl⟩:=e;exact c
 ·exact λc=>⟨_,a,b,rfl,c⟩
@[simp]def afa (a:Env) (b:H) (d:jp):W (some (.ret,a,b)) d=d.r a b:=by
 apply propext;constructor
 ·rintro⟨h,f,g,e,c⟩;simp only[ar,aB]at e;obtain⟨rfl,rfl,rfl⟩:=e;exact c
 ·exact λc=>⟨_,a,b,rfl,c⟩
def UJ(a:jp):¬W none a:=by rintro⟨e,b,c,d,_⟩;grind
def Ie(b:Env->H->Out)(a:jp):jp:=⟨λc d=>W (b c d) a,a.x,a.r⟩
def un(id:Nat)(a:jp):jp:=⟨a.n,λd b c=>if d=id then a.n b c else a.x d b c,a.r⟩
def Ai(b:Env->H->Prop)(a:jp):jp:=⟨b,a.x,a.r⟩
@[simp]theorem ahK (b:Env->H->Out) (a:jp) (c:Env) (d:H):(Ie b a).n c d=W (b c d) a:=rfl
@[simp]theorem aae (e:Env->H->Out) (a:jp) (d:Nat) (b:Env) (c:H):(Ie e a).x d b c=a.x d b c:=rfl
@[simp]theorem ahJ (d:Env->H->Out) (a:jp) (b:Env) (c:H):(Ie d a).r b c=a.r b c:=rfl
@[simp]theorem aei (id:Nat) (a:jp) (b:Env) (c:H):(un id a).n b c=a.n b c:=rfl
@[simp]theorem Bh (id:Nat) (a:jp) (d:Nat) (b:Env) (c:H):(un id a).x d b c=if d=id then a.n b c else a.x d b c:=rfl
@[simp]theorem aeh (id:Nat) (a:jp) (b:Env) (c:H):(un id a).r b c=a.r b c:=rfl
@[simp]theorem ahN (a:Env->H->Prop) (d:jp) (b:Env) (c:H):(Ai a d).n b c=a b c:=rfl
@[simp]theorem ahL (e:Env->H->Prop) (a:jp) (d:Nat) (b:Env) (c:H):(Ai e a).x d b c=a.x d b c:=rfl
@[simp]theorem ahM (d:Env->H->Prop) (a:jp) (b:Env) (c:H):(Ai d a).r b c=a.r b c:=rfl
@[simp]def ae9 (c e:Env->H->Out) (a:Env) (b:H) (d:jp):W (Ed c e a b) d=W (c a b) (Ie e d):=by
 apply propext;unfold Ed;cases k:c a b with
 |none=>constructor<;>(rintro⟨f,a,b,g,_⟩;simp[Z]at g)
 |some h=>
  obtain⟨f,i,j⟩:=h;simp only[eJ,mW];cases f<;>simp
@[simp]def Xp (id:Nat) (g:Env->H->Out) (b:Env) (d:H) (a:jp):W (At id g b d) a=W (g b d) (un id a):=by
 apply propext;unfold At;cases l:g b d with
 |none=>constructor<;>(rintro⟨i,b,d,j,_⟩;simp[Z]at j)
 |some k=>
  obtain⟨i,c,e⟩:=k;simp only[eJ,mW];cases i with
  |normal=>simp
  |ret=>simp
  |exit f=>
   show W (@Bool.rec (λ_=>Out) (some (.exit f,c,e)) (some (.normal,c,e)) (Nat.beq f id)) a↔_;cases h:Nat.beq f id with
   |true=>
    show W (some (.normal,c,e)) a↔_;rw[F1,I1,Bh,aq (aF h)]
   |false=>
    show W (some (.exit f,c,e)) a↔_;rw[I1,I1,Bh,ao (cY h)]
def TY(d:aa T)(a b:Prop):Prop:=match d with
 |some (.bool c)=>if c=true then a else b
 |_=>False
def UL{σ:Type}{g:Env->H->Out}(I:σ->Env->H->Prop)(m:σ->Nat){h:jp}
 (n:∀c a b,I c a b->W (g a b) (Ai (λe f=>∃i,m i<m c/\I i e f) h)):
 ∀d c a b,m c<d->I c a b->W (pT g d a b) h:=by
 intro d;induction d with
 |zero=>omega
 |succ d w=>
  intro c a b u l;have⟨j,r,s,o,p⟩:=n c a b l;show W (Z (g a b) λq=>three q λj e f=> @Ex.rec (λ_=>Out) (pT g d e f) (λk=>some (.exit k,e,f)) (some (.ret,e,f)) j) h;rw[o];simp only[eJ,mW];cases j with
  |normal=>
   obtain⟨i,v,t⟩:=p
   grind
  |exit k=>simp_all
  |ret=>simp_all
section
variable {P:ai}{cx:Ctx}
end
end
@[simp]theorem af7 (c:jB) (d a:H) (b:T):fin c d (some (.val b a))=some (b,a):=rfl
@[simp]theorem aeJ (b:jB) (d:H) (c:aj) (a:List T):fin b d (some (.call c a))=b c a d:=rfl
@[simp]theorem AC (a:H) (b:T):val a (some b)=some (.val b a):=rfl
@[simp]theorem Ja (a:H) (b:T):j7 (some (b,a))=some (.val b a):=rfl
def Ws(a b:List Nat):YG a b=decide (a=b):=by rw[IA,bE];simp
def Wt(a b:Int):U7 a b=decide (a=b):=by rw[An];rfl
def yN(a b:Int):NY a b=decide (a<b):=Ah a b
@[simp]theorem uo (a:ak):F8 a a=true:=by cases a<;>rfl
@[simp]theorem MO (d a:ak) (b c:Int):uv (.int d) (.int a b) (.int a c)=some (decide (b=c)):=by
 show iG (F8 a a) (some (U7 b c))=_;rw[uo,Wt];rfl
@[simp]def aax (a b:List Nat):uv .str (.str a) (.str b)=some (decide (a=b)):=by
 show some (YG a b)=_;rw[Ws]
@[simp]theorem KN (a b:Bool):uv .bool (.bool a) (.bool b)=some (a==b):=by cases a<;>cases b<;>rfl
@[simp]def ab1 (a:ak) (b c:Int):binop .lss (.int a b) (.int a c)=some (.bool (decide (b<c))):=by
 show iG (F8 a a) (zf (NY b c))=_;rw[uo,yN,iR,uf]
@[simp]def ab2 (a:ak) (b c:Int):binop .leq (.int a b) (.int a c)=some (.bool (decide (b<=c))):=by
 show iG (F8 a a) (zf (!NY c b))=_;rw[uo,yN,iR,uf];congr 2;rw[bE];simp
@[simp]def ab3 (a:ak) (b c:Int):binop .gtr (.int a b) (.int a c)=some (.bool (decide (c<b))):=by
 show iG (F8 a a) (zf (NY c b))=_;rw[uo,yN,iR,uf]
@[simp]def ab4 (a:ak) (b c:Int):binop .geq (.int a b) (.int a c)=some (.bool (decide (c<=b))):=by
 show iG (F8 a a) (zf (!NY b c))=_;rw[uo,yN,iR,uf];congr 2;rw[bE];simp
def kr{a:Int}(c: -9223372036854775808<=a)(d:a<9223372036854775808):No .i64 a=a:=by
 cases a with
 |ofNat b=>
  show @Bool.rec (λ_=>Int) _ _ (Nat.ble b 9223372036854775807)=_;rw[cq (by grind)]
 |negSucc b=>
  show @Bool.rec (λ_=>Int) _ _ (Nat.ble b 9223372036854775807)=_;rw[cq D]
def Jr{a:Int}(b: -9223372036854775808<=a)(c:a<9223372036854775808):rS .i64 a=some (.int .i64 a):=by
 unfold rS;rw[kr b c,qg]
theorem iZ{a b:Int}(c: -9223372036854775808<=a+b)(d:a+b<9223372036854775808):binop .add (.int .i64 a) (.int .i64 b)=some (.int .i64 (a+b)):=Jr c d
def lJ{a b:Int}(c: -9223372036854775808<=a-b)(d:a-b<9223372036854775808):binop .sub (.int .i64 a) (.int .i64 b)=some (.int .i64 (a-b)):=Jr c d
def M8{a b:Nat}(c:a<b)(d:b<9223372036854775808):binop .add (.int .i64 (a:Int)) (.int .i64 1)=some (.int .i64 ((a+1:Nat):Int)):=by
 rw[iZ D D];rfl
@[simp]theorem acb (a:Bool):unop .not (.bool a)=some (.bool !a):=by cases a<;>rfl
def Tr{b:Type}(a:List b):ml a=a.length:=kq a
@[simp]theorem abG (b:H) (a:List T) (c:Bool):ahH b (.ed a c)=some (.val (.int .i64 (a.length:Nat)) b):=by
 show val b (Z (iQ (ml a)) λd=>some (.int .i64 (.ofNat d)))=_;rw[Tr,jd];rfl
@[simp]def abT (a:List Nat):(T.str a).cells=[.str a]:=id rfl
@[simp]def abV (a:ak) (b:Int):(T.int a b).cells=[.int a b]:=id rfl
@[simp]def aaQ (a:Bool):(T.bool a).cells=[.bool a]:=id rfl
@[simp]def abX (a:List T):(T.agg a).cells=a:=id rfl
@[simp]def BC (a b:Nat):Nat.beq a b=decide (a=b):=by
 rw[bE];simp
@[simp]def Xg (a b:Nat):Nat.ble a b=decide (a<=b):=by
 rw[bE];simp
@[simp]def Xf (a b:Nat):Nat.blt a b=decide (a<b):=by
 rw[bE,aJ];simp
@[simp]def aew (a:List Nat):(T.str a).iN=true:=id rfl
@[simp]def aey (a:ak) (b:Int):(T.int a b).iN=true:=id rfl
@[simp]def abN (a:Bool):(T.bool a).iN=true:=id rfl
@[simp]def abM (a:List T) (b:Bool):(T.ed a b).iN=true:=id rfl
@[simp]def aeA (a:List T):(T.agg a).iN=true:=id rfl
@[simp]theorem aeK (off:Nat) (b:H) (a:List T):faV off b (.j9 a)=Z (kH off a) λc=>some (mS.val (.j9 c) b):=rfl
@[simp]theorem abD (c:H) (b:Ty) (a:List T):c.load b (.j9 a)=kU b a:=rfl
@[simp]theorem agd {b:Type} (a:List b):kH 0 a=some a:=rfl
@[simp]theorem agc {c:Type} (b:Nat) (d:c) (a:List c):kH (b+1) (d::a)=kH b a:=rfl
@[simp]theorem afB {b:Type} (a:List b):takeN 0 a=some []:=rfl
@[simp]theorem afA {d:Type} (b:Nat) (c:d) (a:List d):takeN (b+1) (c::a)=Z (takeN b a) λe=>some (c::e):=rfl
@[simp]theorem abQ (a:H) (c:List T) (b:Nat):exV a (.tuple c) b=val a (nJ c b):=rfl
end
noncomputable section
open Classical in
@[simp]theorem Hi:m7 []=true:=by unfold m7;rfl
@[simp]def EW (a:T) (b:List T):m7 (a::b)=(oc a&&m7 b):=by rw[m7]
@[simp]theorem Ka (a:ak) (b:Int):oc (.int a b)=true:=by unfold oc;rfl
@[simp]theorem abC (a:Bool):oc (.bool a)=true:=by unfold oc;rfl
@[simp]theorem J9 (a:List Nat):oc (.str a)=true:=by unfold oc;rfl
@[simp]theorem abA:oc .iO=true:=by unfold oc;rfl
@[simp]def abB (a:List T) (b:Bool):oc (.ed a b)=m7 a:=by rw[oc]
@[simp]def Kb (a:List T):oc (.agg a)=m7 a:=by rw[oc]
def Qe{d:Type}(c:d->T)(e:∀b,oc (c b)=true):∀a:List d,m7 (a.map c)=true:=by
 intro a;induction a with
 |nil=>simp
 |cons b a f=>simp[e b,f]
def SL(b:T)(a:List T):Prop:=(b= .iO/\a=[])\/∃c,b= .ed a c
def sl(a:List T):T:=match a with| []=> .iO|x::b=> .ed (x::b) false
def Xq(a:List T)(b:Bool):SL (.ed a b) a:= .inr ⟨b,rfl⟩
def SL.jM{b:T}{a:List T}(d:SL b a)(c:H):c.jM b=some a:=by
 rcases d with⟨rfl,rfl⟩|⟨e,rfl⟩<;>rfl
theorem SL.cells{a:T}{b:List T}(c:SL a b):a.cells=[a]:=by
 rcases c with⟨rfl,rfl⟩|⟨d,rfl⟩<;>rfl
theorem SL.iN{a:T}{b:List T}(c:SL a b):a.iN=true:=by
 rcases c with⟨rfl,rfl⟩|⟨d,rfl⟩<;>rfl
end
noncomputable section
def Hp(a:H):Prop:=a.gU.length=a.size
def Xy{a:H}(c:Hp a)(b:jv):Hp (a.cons b):=by grind [Hp,H.cons]
@[simp]theorem size_cons (a:H) (b:jv):(a.cons b).size=a.size+1:=rfl
def fg(a:H)(b:Nat)(c:jv):H:=(a.put b c).getD a
def Jt{b:H}(i:Hp b){a:Nat}(h:a<b.size)(e:jv):b.put a e=some (fg b a e):=by
 have:∃d,b.put a e=some d:=by
  obtain⟨c,f,j⟩:=b;unfold Hp at i;simp only at i h;show∃d,(iG (Nat.blt a c) (Z (lU j (Nat.sub (Nat.sub c 1) a) e) λg=> @Bool.rec (λ_=>aa H) (some ⟨c,f,g⟩) (some ⟨c,a,g⟩) (Nat.blt a f)))=some d;rw[show Nat.blt a c=true by rw[aJ];exact h,iR,lZ,aq (by grind),eJ];cases Nat.blt a f<;>exact⟨_,rfl⟩
 obtain⟨d,k⟩:=this;unfold fg;rw[k];rfl
def LS{b:H}(m:Hp b){a:Nat}(h:a<b.size)(c:jv):Hp (fg b a c)/\(fg b a c).size=b.size/\∀f,(fg b a c).get f=if f=a then some c else b.get f:=by
 have e:=Jt m h c;generalize fg b a c=g at*
 obtain⟨d,j,k⟩:=b;unfold Hp at*
 simp only at m h;have e:(iG (Nat.blt a d) (Z (lU k (Nat.sub (Nat.sub d 1) a) c) λl=> @Bool.rec (λ_=>aa H) (some ⟨d,j,l⟩) (some ⟨d,a,l⟩) (Nat.blt a j)))=some g:=e;rw[show Nat.blt a d=true by rw[aJ];exact h,iR,lZ,aq (by grind),eJ]at e;have o:g.size=d/\g.gU=k.set (d-1-a) c:=by
  cases hl:Nat.blt a j<;>rw[hl]at e<;>simp only[ar]at e<;>subst e<;>exact⟨rfl,rfl⟩
 obtain⟨i,n⟩:=o;refine⟨by rw[i,n];grind,i,λf=>?_⟩;rw[H.get_eq,H.get_eq,i,n]
 grind
def get_put{b:H}(f:Hp b){c:Nat}(e:c<b.size)(d:jv)(a:Nat):(fg b c d).get a=if a=c then some d else b.get a:=(LS f e d).2.2 a
@[simp]theorem af9 (off:Nat) (c:H) (a b d e:Nat):faV off c (.ptr a b d e)=some (.val (.ptr a b d (e+off)) c):=by
 show(Z (iQ (Nat.add e off)) λf=>some (mS.val (.ptr a b d f) c))=_;rw[jd];rfl
@[simp]theorem Tg (a:H) (b:Nat->T) (c:jv):j7 (a.new b c)=some (.val (b a.size) (a.cons c)):=by rw[H.mh];rfl
theorem Mt{a:H}(b:Hp a)(f c:T):wh 0 0 f c a=some (c,⟨0,0,[]⟩):=by
 obtain⟨d,e,g⟩:=a;unfold Hp at b;simp only at b;unfold wh;simp only;rw[show Nat.sub d 0=d from rfl,nd,aq D,eJ,show Nat.ble 0 e=true by simp]
 grind
def Kf{a:H}(e:Hp a){b c:T}(d:jJ a 0 b=some c):E1 false 0 0 b a=some (c,⟨0,0,[]⟩):=by
 show @Option.rec T (λ_=>aa (T×H)) (oO 0 b a) (λc=>wh 0 0 b c a) (jJ a 0 b)=_;rw[d]
 grind [Mt]
inductive Xz:T->Prop where
 |bool (b:Bool):Xz (.bool b)
 |int (k:ak) (n:Int):Xz (.int k n)
 |str (s:List Nat):Xz (.str s)
 |ed (es:List T) (f:Bool):Xz (.ed es f)
 |iO:Xz .iO
theorem Xz.freeze{a:T}(d:Xz a)(c:H)(e b:Nat):freeze c e (b+1) a=some a:=by cases d<;>rfl
def uY{c:T->aa T}{a:List T}(d:∀b∈a,c b=some b):iu c a=some a:=by
 induction a with
 |nil=>rfl
 |cons b h e=>
  rw[kl,d b Y,e λf g=>d f (by grind)];rfl
def afq(b:T):Prop:=Xz b\/∃a,b= .agg a/\∀c∈a,Xz c
theorem afq.freeze{e:T}(d:afq e)(b:H)(c a:Nat):freeze b c (a+2) e=some e:=by
 rcases d with d|⟨f,rfl,g⟩
 ·exact d.freeze b c (a+1)
 ·show(Z (iu (Go.TI.freeze b c (a+1)) f) λi=>some (T.agg i))=_;rw[uY λj h=>(g j h).freeze b c a];rfl
section
def Cf(b:List (Nat×Nat))(c d:Nat):Bool:=b.any λa=>a.1==c&&a.2==d
def mM(a:List (Nat×Nat))(b:Nat):Bool:=a.any λc=>c.1==b
def Hr{a:List (Nat×Nat)}{b c:Nat}(h:Cf a b c=true):mM a b=true:=by
 unfold Cf at h;unfold mM;rw[List.any_eq_true]at h|-
 grind
def WP(g:List (Nat×Nat))(c:af Oper):Bool:=
 let f:=M9 c.toList []
 let d:=c.toList.zipIdx
 d.all λa=>d.all λb=> !Nat.blt b.2 a.2|| !((uZ b.1.op&&jb a.1.op)||(jb b.1.op&&(uZ a.1.op||jb a.1.op)))||(f.getD a.2 0).testBit b.2||Cf g b.2 a.2
def FG{j:List (Nat×Nat)}{g:af Oper}(k:WP j g=true){b c:Nat}{f d:Oper}(p:g[b]? =some f)(q:g[c]? =some d)(s:b<c)
 (r:(uZ f.op=true/\jb d.op=true)\/(jb f.op=true/\(uZ d.op=true\/jb d.op=true))):ku g b c=true\/Cf j b c=true:=by
 unfold WP at k;have m:=List.all_eq_true.1 k (d,c) (mem_zipIdx q);have a:=List.all_eq_true.1 m (f,b) (mem_zipIdx p);have o:Nat.blt b c=true:=by rw[aJ];omega
 simp only[o,Bool.not_true,Bool.false_or,cr,cj]at a;rcases a with(a|a)|a
 ·exfalso;rcases r with⟨l,i⟩|⟨l,i|i⟩<;>simp[l,i]at a
 ·exact .inl a
 grind
def nV(c:List (Nat×Nat))(f b:Nat)(d:List (Nat×H×H)):Prop:=∀a∈d,Cf c a.1 f=true->fQ a.2.1 a.2.2 b=true
def yp(b:List (Nat×Nat))(d:Nat)(h c:H)(f:List (Nat×Nat)):Prop:=∀a∈f,Cf b a.1 d=true->fQ h c a.2=true
@[simp]def aaa (b:List (Nat×Nat)) (c a:Nat):nV b c a []=True:=by simp[nV]
@[simp]def Yy (b:List (Nat×Nat)) (c a g:Nat) (h f:H) (d:List (Nat×H×H)):nV b c a ((g,h,f)::d)=((Cf b g c=true->fQ h f a=true)/\nV b c a d):=by simp[nV]
@[simp]def abR (a:List (Nat×Nat)) (c:Nat) (h b:H):yp a c h b []=True:=by simp[yp]
@[simp]def aaz (a:List (Nat×Nat)) (c f d:Nat) (h b:H) (g:List (Nat×Nat)):yp a c h b ((f,d)::g)=((Cf a f c=true->fQ h b d=true)/\yp a c h b g):=by simp[yp]
open Classical in
def ze(cx:Ctx)(cf:jB)(J:Nat)(g:af Oper)(b:List (Nat×Nat)):List Oper->Nat->List (Nat×Nat)->List (Nat×H×H)->Env->H->aa (Env×H)
 | [],_,_,_,e,h=>some (e,h)
 |o::k,a,f,c,e,h=>Z (mI cx cf J g e h o) λm=>two m λj d=>
  Z (lq g J e o.guard) λr=>
   if r=true then
    if jb o.op=true then
     if yp b a h d f/\(∀p l q i,o.op= .store p l q->Z (ir cx J e l) eG=some i->nV b a i c)then
      ze cx cf J g b k (a+1) f (if mM b a=true then(a,h,d)::c else c) j d else none
    else match iM cx J e h o.op with
     |none=>ze cx cf J g b k (a+1) f c j d
     |some i=>if nV b a i c then ze cx cf J g b k (a+1) (if mM b a=true then(a,i)::f else f) c j d else none
   else ze cx cf J g b k (a+1) f c j d
section
variable {cx:Ctx}{cf:jB}{n J:Nat}
def Jm{o:List (Nat×Nat)}{c:af Oper}(K:WP o c=true):∀(l:List Oper) (b:Nat) (u:List (Nat×Nat)) (r:List (Nat×H×H)) (g:Seen) (e:Env) (h:H) (q:Env×H),(∀m,l[m]? =c[b+m]?)->
 (∀a∈g.nK,a.1<b/\(∃d,c[a.1]? =some d/\uZ d.op=true)/\(mM o a.1=true->a∈u))->
 (∀a∈g.mo,a.1<b/\(∃d,c[a.1]? =some d/\jb d.op=true)/\(mM o a.1=true->a∈r))->
 ze cx cf J c o l b u r e h=some q->kI cx cf J c l b g e h=some q:=by
 intro l;induction l with
 |nil=>intro b u r g e h q _ _ _ f;exact f
 |cons d l N=>
  intro b u r g e h q hl A z f;have L:c[b]? =some d:=by have:=hl 0;grind
  have M:∀m,l[m]? =c[b+1+m]? :=λm=>by
   have:=hl (m+1);simp only[dq]at this;rw[this];grind
  show(Z (mI cx cf J c e h d) λa=>two a λp i=>
   Z (lq c J e d.guard) λae=> @Bool.rec (λ_=>aa (Env×H)) (kI cx cf J c l (b+1) g p i)
    (@Bool.rec (λ_=>aa (Env×H))
      (@Option.rec Nat (λ_=>aa (Env×H)) (kI cx cf J c l (b+1) g p i)
        (λj=>iG (pN c b j g.mo) (kI cx cf J c l (b+1) ⟨(b,j)::g.nK,g.mo⟩ p i)) (iM cx J e h d.op))
      (iG (zu c b h i g.nK) (iG (tc cx J c b e g.mo d.op) (kI cx cf J c l (b+1) ⟨g.nK,(b,h,i)::g.mo⟩ p i))) (jb d.op)) ae)=some q
  unfold ze at f;obtain⟨⟨p,i⟩,U,f⟩:=dX.1 f;simp only[lQ]at f;obtain⟨X,V,f⟩:=dX.1 f;rw[U,eJ,lQ,V,eJ];have T:∀a∈g.nK,a.1<b+1/\(∃d,c[a.1]? =some d/\uZ d.op=true)/\(mM o a.1=true->a∈u):=λa k=>⟨by have:=(A a k).1;omega,(A a k).2⟩;have Q:∀a∈g.mo,a.1<b+1/\(∃d,c[a.1]? =some d/\jb d.op=true)/\(mM o a.1=true->a∈r):=λa k=>⟨by have:=(z a k).1;omega,(z a k).2⟩;have lk:∀j,(uZ d.op=true\/jb d.op=true)->nV o b j r->pN c b j g.mo=true:=by
   intro j R s;unfold pN;rw[BD,cz];intro a k;obtain⟨C,⟨W,E,F⟩,I⟩:=z a k;show @Bool.rec (λ_=>Bool) (ku c a.1 b) true (fQ a.2.1 a.2.2 j)=true;rcases FG K E L C (.inr ⟨F,R⟩)with B|t
   ·rw[B];cases fQ a.2.1 a.2.2 j<;>rfl
   ·rw[s a (I (Hr t)) t]
  cases X with
  |false=>grind
  |true=>
   simp only[bj]at f;cases y:jb d.op with
   |true=>
    rw[y]at f;simp only[bj]at f;split at f
    ·rename_i s;have O:zu c b h i g.nK=true:=by
      unfold zu;rw[BD,cz];intro a k;obtain⟨C,⟨W,E,F⟩,I⟩:=A a k;show @Bool.rec (λ_=>Bool) (ku c a.1 b) true (fQ h i a.2)=true;rcases FG K E L C (.inl ⟨F,y⟩)with B|t
      ·rw[B];cases fQ h i a.2<;>rfl
      ·rw[s.1 a (I (Hr t)) t]
     have P:tc cx J c b e g.mo d.op=true:=by
      unfold tc;split
      ·rename_i m x v an;cases al:Z (ir cx J e x) eG with
       |none=>rfl
       |some j=>grind
      ·rfl
     simp only[O,P,iR];refine N (b+1) _ _ _ p i q M T (λa k=>?_) f
     grind
    grind
   |false=>
    rw[y]at f;simp only[cD,bh]at f;simp only;cases w:iM cx J e h d.op with
    |none=>rw[w]at f;grind
    |some j=>
     rw[w]at f;simp only at f;split at f
     ·rename_i s;have S:=Kc w;simp only[lk j (.inl S) s,iR];refine N (b+1) _ _ _ p i q M (λa k=>?_) Q f
      grind
     grind
abbrev DL:=List (Nat×List (Nat×Nat))
def Rs(cx:Ctx)(cf:jB)(J:Nat)(dl:DL)(id:Nat)(a:af Oper)(e:Env)(h:H):Out:=
 match dl.lookup id with
 |none=>Z (ly cx cf J a a.toList ⟨e.vars,.nil⟩ h) λd=>two d λb c=>some (.normal,⟨b.vars,.nil⟩,c)
 |some f=>Z (ze cx cf J a f a.toList 0 [] [] ⟨e.vars,.nil⟩ h) λd=>two d λb c=>some (.normal,⟨b.vars,.nil⟩,c)
def j4(cx:Ctx)(cf:jB)(b J:Nat)(dl:DL):Code->Env->H->Out
 | .skip=>λe h=>some (.normal,e,h)
 | .region id f _=>Rs cx cf J dl id f
 | .seq c a=>Ed (j4 cx cf b J dl c) (j4 cx cf b J dl a)
 | .cond d c a=>KT cx J d (j4 cx cf b J dl c) (j4 cx cf b J dl a)
 | .block id a=>At id (j4 cx cf b J dl a)
 | .loop a=>pT (j4 cx cf b J dl a) b
 | .exit id=>λe h=>some (.exit id,e,h)
 | .ret=>λe h=>some (.ret,e,h)
 |_=>λ_ _=>none
def oa(dl:DL):Code->Bool
 | .region id d c=>(match dl.lookup id with|none=> !c||Nx d|some f=>c&&WP f d)
 | .seq a b=>oa dl a&&oa dl b
 | .cond _ a b=>oa dl a&&oa dl b
 | .block _ a=>oa dl a
 | .loop a=>oa dl a
 |_=>true
def so{dl:DL}:∀(o:Code),oa dl o=true->∀e h b,j4 cx cf n J dl o e h=some b->kJ cx cf n J o e h=some b:=by
 intro o;induction o with
 |region id j x=>
  intro c e h b a;obtain⟨s,E⟩:=e;replace a:Rs cx cf J dl id j ⟨s,E⟩ h=some b:=a;unfold Rs at a;simp only[oa]at c;cases hl:dl.lookup id with
  |none=>
   rw[hl]at a c;simp only at a c;cases x with
   |false=>exact a
   |true=>
    simp only[Bool.not_true,Bool.false_or]at c;show(Z (kI cx cf J j j.toList 0 ⟨[],[]⟩ ⟨s,.nil⟩ h) λb=>two b λf g=>some (Ex.normal,(⟨f.vars,.nil⟩:Env),g))=some b;rw[HP c j.toList 0 ⟨[],[]⟩ ⟨s,.nil⟩ h (λu=>by simp) (λl q=>by grind) (λl q=>by grind)];exact a
  |some I=>
   rw[hl]at a c;simp only[ax]at a c;obtain⟨rfl,c⟩:=c;obtain⟨l,q,a⟩:=dX.1 a;show(Z (kI cx cf J j j.toList 0 ⟨[],[]⟩ ⟨s,.nil⟩ h) λb=>two b λf g=>some (Ex.normal,(⟨f.vars,.nil⟩:Env),g))=some b;rw[Jm c j.toList 0 [] [] ⟨[],[]⟩ ⟨s,.nil⟩ h l (λu=>by simp) (λl q=>by grind) (λl q=>by grind) q,eJ];exact a
 |seq d m v B=>
  intro c e h b a;simp only[oa,ax]at c;have a:Ed (j4 cx cf n J dl d) (j4 cx cf n J dl m) e h=some b:=a;show Ed (kJ cx cf n J d) (kJ cx cf n J m) e h=some b;unfold Ed at*
  obtain⟨⟨k,y,z⟩,p,a⟩:=dX.1 a;rw[v c.1 e h _ p,eJ];simp only[mW]at*
  cases k with
  |normal=>grind
  |exit r=>exact a
  |ret=>exact a
 |cond w d m v B=>
  intro c e h b a;simp only[oa,ax]at c;have a:KT cx J w (j4 cx cf n J dl d) (j4 cx cf n J dl m) e h=some b:=a;show KT cx J w (kJ cx cf n J d) (kJ cx cf n J m) e h=some b;unfold KT at*
  obtain⟨F,A,a⟩:=dX.1 a;rw[A,eJ];cases F<;>first|exact a|skip
  rename_i u;cases u with
  |true=>grind
  |false=>grind
 |block id d t=>
  intro c e h b a;simp only[oa]at c;have a:At id (j4 cx cf n J dl d) e h=some b:=a;show At id (kJ cx cf n J d) e h=some b;unfold At at*
  obtain⟨l,p,a⟩:=dX.1 a;rw[t c e h _ p,eJ];exact a
 |loop d t=>
  intro c e h b a;simp only[oa]at c;have C:∀i e h b,pT (j4 cx cf n J dl d) i e h=some b->pT (kJ cx cf n J d) i e h=some b:=by
   intro i;induction i with
   |zero=>simp[pT]
   |succ i K=>
    intro e h b a;have a:(Z (j4 cx cf n J dl d e h) λb=>three b λk f g=> @Ex.rec (λ_=>Out) (pT (j4 cx cf n J dl d) i f g) (λr=>some (.exit r,f,g)) (some (.ret,f,g)) k)=some b:=a;show(Z (kJ cx cf n J d e h) λb=>three b λk f g=> @Ex.rec (λ_=>Out) (pT (kJ cx cf n J d) i f g) (λr=>some (.exit r,f,g)) (some (.ret,f,g)) k)=some b;obtain⟨⟨k,y,z⟩,p,a⟩:=dX.1 a;rw[t c e h _ p,eJ];simp only[mW]at*
    cases k with
    |normal=>grind
    |exit r=>exact a
    |ret=>exact a
  exact C n e h b a
 |_=>intro _ e h b a;first|exact a|(simp[j4]at a)
def WR(cx:Ctx)(cf:jB)(J:Nat)(f:af Oper)(d:List Oper)(i g:iz)(h:H)(c:iz->H->Prop):Prop:=
 ∃a b,ly cx cf J f d ⟨i,g⟩ h=some (a,b)/\c a.vars b
def WX(c:aa (T×H))(b:T->H->Prop):Prop:=∃a h,c=some (a,h)/\b a h
@[simp]def BH (b:T) (h:H) (d:T->H->Prop):WX (some (b,h)) d=d b h:=by
 apply propext;constructor
 ·rintro⟨g,f,c,a⟩;simp only[ar,aB]at c;obtain⟨rfl,rfl⟩:=c;exact a
 ·exact λa=>⟨b,h,rfl,a⟩
def WD(J:Nat)(g:aa Tmp)(f:T)(d c:iz)(a:iz->iz->Prop):Prop:=match g with
 |none=>a d c
 |some b=>if kS J b=true then a (put d b f) c else a d (.cons b f c)
def E2(a b:Nat):(kS a b=true)=((a>>>b)&&&1=1):=by
 apply propext;show Nat.beq ((a>>>b)&&&1) 1=true↔_;exact⟨aF,λh=>by rw[h];rfl⟩
def I4(a:Tmp)(d:T)(f c:iz)(b:iz->iz->Prop):WD J (some a) d f c b=if(J>>>a)&&&1=1 then b (put f a d) c else b f (.cons a d c):=by
 simp[WD,E2]
def UP(i:af Oper)(a b:iz)(h:H)(c:iz->H->Prop):WR cx cf J i [] a b h c=c a h:=by
 apply propext;constructor
 ·rintro⟨e,g,d,f⟩;have d:some ((⟨a,b⟩:Env),h)=some (e,g):=d
  grind
 ·exact λf=>⟨⟨a,b⟩,h,rfl,f⟩
def I3(l:af Oper)(k:Oper)(j:List Oper)(b a:iz)(h:H)(q:iz->H->Prop):
 WR cx cf J l (k::j) b a h q=WX (AD cx cf J l ⟨b,a⟩ h k) λc d=>WD J k.dst c b a λb a=>WR cx cf J l j b a d q:=by
 have u:∀c d,(∃f,Env.dst J ⟨b,a⟩ k.dst c=some f/\WR cx cf J l j f.vars f.tmps d q)↔WD J k.dst c b a λb a=>WR cx cf J l j b a d q:=by
  intro c d;cases x:k.dst with
  |none=>
   constructor
   ·rintro⟨f,g,p⟩;have g:some (⟨b,a⟩:Env)=some f:=g;simp only[ar]at g;subst g;exact p
   ·exact λp=>⟨_,rfl,p⟩
  |some m=>
   have hE:Env.dst J ⟨b,a⟩ (some m) c=some (if kS J m=true then⟨put b m c,a⟩else⟨b,.cons m c a⟩):=by
    show @Bool.rec (λ_=>aa Env) (some ⟨b,.cons m c a⟩) (Z (mX b m c) λj=>some ⟨j,a⟩) (kS J m)=_;rw[qQ];cases kS J m<;>rfl
   rw[hE];unfold WD;simp only[ar,exists_eq_left'];split<;>rfl
 apply propext;have v:ly cx cf J l (k::j) ⟨b,a⟩ h=Z (mI cx cf J l ⟨b,a⟩ h k) λw=>two w λo d=>ly cx cf J l j o d:=rfl;unfold WR;rw[v,tg];constructor
 ·rintro⟨o,d,i,s⟩;have⟨⟨c,r⟩,t,i⟩:=dX.1 i;simp only[lQ]at i;have⟨f,g,i⟩:=dX.1 i;exact⟨c,r,t,(u c r).1 ⟨f,g,o,d,i,s⟩⟩
 ·rintro⟨c,r,t,p⟩;have⟨f,g,o,d,i,s⟩:=(u c r).2 p;refine⟨o,d,?_,s⟩;rw[t,eJ,lQ,g,eJ];exact i
def aff(f:af Oper)(g:aa Tmp)(i:Op)(m:ab)(l:String)(j:af Edge)(d:List Oper)(b a:iz)(h:H)(c:iz->H->Prop):
 WR cx cf J f (⟨g,i,m,l,j,none⟩::d) b a h c=WX (fin cf h (jT i cx J ⟨b,a⟩ h)) λo k=>WD J g o b a λb a=>WR cx cf J f d b a k c:=I3 f _ d b a h c
def WG(c:aa Bool)(a b:Prop):Prop:=match c with|some true=>a|some false=>b|none=>False
def OS(a b:Prop):WG (some true) a b=a:=rfl
def Lf(b a:Prop):WG (some false) b a=a:=rfl
def UQ(c:af Oper)(i:aa Tmp)(k:Op)(q:ab)(p:String)(o:af Edge)(f:Nat)(d:Bool)(j:List Oper)(b a:iz)(h:H)(g:iz->H->Prop):
 WR cx cf J c (⟨i,k,q,p,o,some (f,d)⟩::j) b a h g=WG (lq c J ⟨b,a⟩ (some (f,d)))
  (WX (fin cf h (jT k cx J ⟨b,a⟩ h)) λm l=>WD J i m b a λb a=>WR cx cf J c j b a l g)
  (WD J i .undef b a λb a=>WR cx cf J c j b a h g):=by
 rw[I3];show WX (Z (lq c J ⟨b,a⟩ (some (f,d))) λs=> @Bool.rec (λ_=>aa (T×H)) (some (.undef,h)) (fin cf h (jT k cx J ⟨b,a⟩ h)) s) _=_;cases lq c J ⟨b,a⟩ (some (f,d))with
 |none=>apply propext;constructor<;>(first|(rintro⟨m,l,t,_⟩;simp_all)|exact False.elim)
 |some r=>cases r<;>simp[OS,Lf]
def Nq(a:aa T)(b:Bool):aa Bool:=Z a λa=>match a with| .bool c=>some (c==b)|_=>some false
@[simp]theorem DX (b a:Bool):Nq (some (.bool b)) a=some (b==a):=rfl
@[simp]theorem XE (a:Bool):Nq (some .undef) a=some false:=rfl
@[simp]def DY (d:List Oper) (e:Env) (c:Nat) (f:Bool):lq d.toArray J e (some (c,f))=Nq (Z (Z (d[c]?) λb=>b.dst) λa=>e.get J a) f:=by
 show(Z (Z (Z (nJ d.toArray.toList c) λb=>b.dst) λa=>e.get J a) λg=>_)=_;rw[lI];unfold Nq;simp only;cases (Z (Z (d[c]?) λb=>b.dst) λa=>e.get J a)with
 |none=>rfl
 |some g=>cases g<;>first|rfl|(rename_i i;cases i<;>cases f<;>rfl)
@[simp]theorem DF (c b:iz) (a:Nat):Env.get J ⟨c,b⟩ a=if(J>>>a)&&&1=1 then d8 c a else d8 b a:=by
 show @Bool.rec (λ_=>aa T) (d8 b a) (d8 c a) (kS J a)=_;simp only[<-E2];cases kS J a<;>rfl
def Ng(cx:Ctx)(cf:jB)(J:Nat)(k:af Oper)(d:List (Nat×Nat))(i:List Oper)(g:Nat)(j:List (Nat×Nat))(f:List (Nat×H×H))(m l:iz)(h:H)(c:iz->H->Prop):Prop:=
 ∃a b,ze cx cf J k d i g j f ⟨m,l⟩ h=some (a,b)/\c a.vars b
def OR(m:af Oper)(g:List (Nat×Nat))(k:Nat)(l:List (Nat×Nat))(i:List (Nat×H×H))(a b:iz)(h:H)(c:iz->H->Prop):Ng cx cf J m g [] k l i a b h c=c a h:=by
 apply propext;constructor
 ·rintro⟨e,j,d,f⟩;have d:some ((⟨a,b⟩:Env),h)=some (e,j):=d
  grind
 ·exact λf=>⟨⟨a,b⟩,h,rfl,f⟩
def DK(cx:Ctx)(J:Nat)(d:List (Nat×Nat))(a:Nat)(f:List (Nat×Nat))(b:List (Nat×H×H))(i:Op)(e:Env)(h j:H)(g:List (Nat×Nat)->List (Nat×H×H)->Prop):Prop:=
 if jb i=true then(yp d a h j f/\(∀l k m c,i= .store l k m->Z (ir cx J e k) eG=some c->nV d a c b))/\g f (if mM d a=true then(a,h,j)::b else b)
 else match iM cx J e h i with
  |none=>g f b
  |some c=>nV d a c b/\g (if mM d a=true then(a,c)::f else f) b
def Le(u:af Oper)(y:List (Nat×Nat))(i:Oper)(x:List Oper)(z:Nat)(q:List (Nat×Nat))(o:List (Nat×H×H))(b a:iz)(h:H)(A:iz->H->Prop):
 Ng cx cf J u y (i::x) z q o b a h A=WG (lq u J ⟨b,a⟩ i.guard)
  (WX (fin cf h (jT i.op cx J ⟨b,a⟩ h)) λj c=>DK cx J y z q o i.op ⟨b,a⟩ h c λq o=>WD J i.dst j b a λb a=>Ng cx cf J u y x (z+1) q o b a c A)
  (WD J i.dst .undef b a λb a=>Ng cx cf J u y x (z+1) q o b a h A):=by
 have t:∀j c (q:List (Nat×Nat)) (o:List (Nat×H×H)),(∃g,Env.dst J ⟨b,a⟩ i.dst j=some g/\Ng cx cf J u y x (z+1) q o g.vars g.tmps c A)↔WD J i.dst j b a λb a=>Ng cx cf J u y x (z+1) q o b a c A:=by
  intro j c q o;cases M:i.dst with
  |none=>
   constructor
   ·rintro⟨g,f,r⟩;have f:some (⟨b,a⟩:Env)=some g:=f;simp only[ar]at f;subst f;exact r
   ·exact λr=>⟨_,rfl,r⟩
  |some v=>
   have hE:Env.dst J ⟨b,a⟩ (some v) j=some (if kS J v=true then⟨put b v j,a⟩else⟨b,.cons v j a⟩):=by
    show @Bool.rec (λ_=>aa Env) (some ⟨b,.cons v j a⟩) (Z (mX b v j) λx=>some ⟨x,a⟩) (kS J v)=_;rw[qQ];cases kS J v<;>rfl
   rw[hE];unfold WD;simp only[ar,exists_eq_left'];split<;>rfl
 apply propext;constructor
 ·rintro⟨l,c,p,m⟩;unfold ze at p;rw[tg]at p;obtain⟨⟨j,E⟩,s,F⟩:=dX.1 p;simp only[lQ]at F;obtain⟨g,f,I⟩:=dX.1 F;obtain⟨C,r,k⟩:=dX.1 I;clear p F I;unfold AD at s;rw[r,eJ]at s;rw[r];cases C with
  |false=>
   replace s:some (T.undef,h)=some (j,E):=s;simp only[ar,aB]at s;obtain⟨rfl,rfl⟩:=s;simp only[cD,bh]at k;exact(t _ _ q o).1 ⟨g,f,l,c,k,m⟩
  |true=>
   simp only[bj]at k;refine⟨j,E,s,?_⟩;unfold DK;split
   ·rename_i hE;rw[aq hE]at k;split at k
    ·rename_i w;exact⟨w,(t _ _ _ _).1 ⟨g,f,l,c,k,m⟩⟩
    grind
   ·rename_i hE;rw[ao hE]at k;cases B:iM cx J ⟨b,a⟩ h i.op with
    |none=>rw[B]at k;exact(t _ _ _ _).1 ⟨g,f,l,c,k,m⟩
    |some L=>
     rw[B]at k;simp only at k;split at k
     ·rename_i w;exact⟨w,(t _ _ _ _).1 ⟨g,f,l,c,k,m⟩⟩
     grind
 ·intro d;unfold Ng ze;rw[tg];cases r:lq u J ⟨b,a⟩ i.guard with
  |none=>rw[r]at d;exact d.elim
  |some C=>
   rw[r]at d;have K:AD cx cf J u ⟨b,a⟩ h i= @Bool.rec (λ_=>aa (T×H)) (some (.undef,h)) (fin cf h (jT i.op cx J ⟨b,a⟩ h)) C:=by
    unfold AD;rw[r,eJ]
   cases C with
   |false=>
    obtain⟨g,f,l,c,p,m⟩:=(t _ _ q o).2 d;refine⟨l,c,?_,m⟩;rw[K];simp_all
   |true=>
    obtain⟨j,E,s,d⟩:=d;rw[K];simp only[s,eJ,lQ,bj];unfold DK at d;split at d
    ·rename_i hE;obtain⟨w,d⟩:=d;obtain⟨g,f,l,c,p,m⟩:=(t _ _ _ _).2 d;refine⟨l,c,?_,m⟩;rw[f,eJ,aq hE,aq w];exact p
    ·rename_i hE;cases B:iM cx J ⟨b,a⟩ h i.op with
     |none=>
      rw[B]at d;obtain⟨g,f,l,c,p,m⟩:=(t _ _ _ _).2 d;refine⟨l,c,?_,m⟩;rw[f,eJ,ao hE];exact p
     |some L=>
      rw[B]at d;obtain⟨w,d⟩:=d;obtain⟨g,f,l,c,p,m⟩:=(t _ _ _ _).2 d;refine⟨l,c,?_,m⟩;rw[f,eJ,ao hE];simp only;rw[aq w];exact p
def aba(l:af Oper)(f:List (Nat×Nat))(m:aa Tmp)(k:Op)(r:ab)(q:String)(p:af Edge)(j:List Oper)(g:Nat)(d:List (Nat×Nat))(c:List (Nat×H×H))(b a:iz)(h:H)(i:iz->H->Prop):
 Ng cx cf J l f (⟨m,k,r,q,p,none⟩::j) g d c b a h i=
  WX (fin cf h (jT k cx J ⟨b,a⟩ h)) λs o=>DK cx J f g d c k ⟨b,a⟩ h o λd c=>WD J m s b a λb a=>Ng cx cf J l f j (g+1) d c b a o i:=Le l f _ j g d c b a h i
def RK(cx:Ctx)(cf:jB)(J:Nat)(d:af Oper)(c:List Oper)(a f:iz)(h:H)(b:jp):Prop:=WR cx cf J d c a f h λa h=>b.n ⟨a,.nil⟩ h
def XK(k:aa (T×H))(cx:Ctx)(cf:jB)(J:Nat)(i:af Oper)(d:aa Tmp)(g:List Oper)(b a:iz)(c:jp):Prop:=WX k λj f=>WD J d j b a λb a=>RK cx cf J i g b a f c
def GK(j:aa Bool)(cx:Ctx)(cf:jB)(J:Nat)(g:af Oper)(d:aa Tmp)(i:Op)(f:List Oper)(b a:iz)(h:H)(c:jp):Prop:=
 WG j (XK (fin cf h (jT i cx J ⟨b,a⟩ h)) cx cf J g d f b a c) (WD J d .undef b a λb a=>RK cx cf J g f b a h c)
@[simp]def ail (c:af Oper) (a d:iz) (h:H) (b:jp):RK cx cf J c [] a d h b=b.n ⟨a,.nil⟩ h:=UP c a d h _
@[simp]def aiS (g:af Oper) (c:aa Tmp) (f:Op) (l:ab) (k:String) (j:af Edge) (d:List Oper) (b a:iz) (h:H) (i:jp):
 RK cx cf J g (⟨c,f,l,k,j,none⟩::d) b a h i=XK (fin cf h (jT f cx J ⟨b,a⟩ h)) cx cf J g c d b a i:=aff g c f l k j d b a h _
@[simp]def fK (a:af Oper) (f:aa Tmp) (j:Op) (o:ab) (m:String) (l:af Edge) (g:Nat) (d:Bool) (i:List Oper) (c b:iz) (h:H) (k:jp):
 RK cx cf J a (⟨f,j,o,m,l,some (g,d)⟩::i) c b h k=GK (lq a J ⟨c,b⟩ (some (g,d))) cx cf J a f j i c b h k:=UQ a f j o m l g d i c b h _
@[simp]theorem agz (g:T) (h:H) (c:af Oper) (b:List Oper) (f d:iz) (a:jp):XK (some (g,h)) cx cf J c none b f d a=RK cx cf J c b f d h a:=by
 unfold XK;rw[BH];rfl
@[simp]def agy (g:T) (h:H) (d:af Oper) (a:Tmp) (c:List Oper) (i f:iz) (b:jp):XK (some (g,h)) cx cf J d (some a) c i f b=
 if(J>>>a)&&&1=1 then RK cx cf J d c (put i a g) f h b else RK cx cf J d c i (.cons a g f) h b:=by
 unfold XK;rw[BH,I4]
@[simp]def agK (i:af Oper) (d:aa Tmp) (g:Op) (f:List Oper) (b a:iz) (h:H) (c:jp):GK (some true) cx cf J i d g f b a h c=XK (fin cf h (jT g cx J ⟨b,a⟩ h)) cx cf J i d f b a c:=id rfl
@[simp]def afn (g:af Oper) (c:Tmp) (i:Op) (f:List Oper) (b a:iz) (h:H) (d:jp):GK (some false) cx cf J g (some c) i f b a h d=if(J>>>c)&&&1=1 then RK cx cf J g f (put b c .undef) a h d else RK cx cf J g f b (.cons c .undef a) h d:=by
 show WD J (some c) .undef b a (λb a=>RK cx cf J g f b a h d)=_;rw[I4]
def Rf(cx:Ctx)(J:Nat)(b:List (Nat×Nat))(d:Nat)(c:List (Nat×H×H))(f:Op)(e:Env):Prop:=match f with
 | .store _ g _=>(match Z (ir cx J e g) eG with|some a=>nV b d a c|none=>True)
 |_=>True
def Uv(b:List (Nat×Nat))(d:Nat)(c:List (Nat×H×H))(f:aa Nat):Prop:=match f with|some a=>nV b d a c|none=>True
@[simp]def aa6 (a:List (Nat×Nat)) (c:Nat) (b:List (Nat×H×H)):Uv a c b none=True:=id rfl
@[simp]def aa5 (b:List (Nat×Nat)) (d:Nat) (c:List (Nat×H×H)) (a:Nat):Uv b d c (some a)=nV b d a c:=id rfl
@[simp]def D6 (a:List (Nat×Nat)) (c:Nat) (b:List (Nat×H×H)) (f:ab) (d g:ah) (e:Env):Rf cx J a c b (.store f d g) e=Uv a c b (Z (ir cx J e d) eG):=id rfl
@[simp]def abl (b:List (Nat×Nat)) (d:Nat) (c:List (Nat×H×H)) (a:Call) (e:Env):Rf cx J b d c (.call a) e=True:=id rfl
def XB(cx:Ctx)(cf:jB)(J:Nat)(j:af Oper)(c:List (Nat×Nat))(g:List Oper)(f:Nat)(i:List (Nat×Nat))(d:List (Nat×H×H))(a k:iz)(h:H)(b:jp):Prop:=Ng cx cf J j c g f i d a k h λa h=>b.n ⟨a,.nil⟩ h
def UY(q:aa (T×H))(cx:Ctx)(cf:jB)(J:Nat)(o:af Oper)(f:List (Nat×Nat))(k:aa Tmp)(m:Op)(l:List Oper)(i:Nat)(d:List (Nat×Nat))(c:List (Nat×H×H))(b a:iz)(h:H)(j:jp):Prop:=
 WX q λp g=>DK cx J f i d c m ⟨b,a⟩ h g λd c=>WD J k p b a λb a=>XB cx cf J o f l (i+1) d c b a g j
def Va(m:T)(cx:Ctx)(cf:jB)(J:Nat)(l:af Oper)(d:List (Nat×Nat))(f:aa Tmp)(j:List Oper)(i:Nat)(k:List (Nat×Nat))(g:List (Nat×H×H))(b a:iz)(h:H)(c:jp):Prop:=WD J f m b a λb a=>XB cx cf J l d j i k g b a h c
def DLK(p:aa Nat)(m:T)(cx:Ctx)(cf:jB)(J:Nat)(k:af Oper)(b:List (Nat×Nat))(i:aa Tmp)(j:List Oper)(a:Nat)(d:List (Nat×Nat))(c:List (Nat×H×H))(o l:iz)(h:H)(f:jp):Prop:=match p with
 |none=>Va m cx cf J k b i j (a+1) d c o l h f
 |some g=>nV b a g c/\Va m cx cf J k b i j (a+1) (if mM b a=true then(a,g)::d else d) c o l h f
@[simp]def afw (l:T) (j:af Oper) (b:List (Nat×Nat)) (c:aa Tmp) (g:List Oper) (f:Nat) (i:List (Nat×Nat)) (d:List (Nat×H×H)) (m k:iz) (h:H) (a:jp):DLK none l cx cf J j b c g f i d m k h a=Va l cx cf J j b c g (f+1) i d m k h a:=id rfl
@[simp]def UZ (c:Nat) (m:T) (k:af Oper) (b:List (Nat×Nat)) (i:aa Tmp) (j:List Oper) (a:Nat) (f:List (Nat×Nat)) (d:List (Nat×H×H)) (o l:iz) (h:H) (g:jp):DLK (some c) m cx cf J k b i j a f d o l h g=(nV b a c d/\Va m cx cf J k b i j (a+1) (if mM b a=true then(a,c)::f else f) d o l h g):=id rfl
@[simp]def afv (l:T) (i:af Oper) (b:List (Nat×Nat)) (f:List Oper) (d:Nat) (g:List (Nat×Nat)) (c:List (Nat×H×H)) (k j:iz) (h:H) (a:jp):Va l cx cf J i b none f d g c k j h a=XB cx cf J i b f d g c k j h a:=id rfl
@[simp]def afu (l:T) (j:af Oper) (c:List (Nat×Nat)) (a:Tmp) (g:List Oper) (f:Nat) (i:List (Nat×Nat)) (d:List (Nat×H×H)) (m k:iz) (h:H) (b:jp):Va l cx cf J j c (some a) g f i d m k h b=
 if(J>>>a)&&&1=1 then XB cx cf J j c g f i d (put m a l) k h b else XB cx cf J j c g f i d m (.cons a l k) h b:=by unfold Va;rw[I4]
@[simp]def agS (i:af Oper) (c:List (Nat×Nat)) (f:Nat) (g:List (Nat×Nat)) (d:List (Nat×H×H)) (a j:iz) (h:H) (b:jp):XB cx cf J i c [] f g d a j h b=b.n ⟨a,.nil⟩ h:=OR i c f g d a j h _
@[simp]def aip (l:af Oper) (d:List (Nat×Nat)) (f:aa Tmp) (a:Op) (q:ab) (p:String) (o:af Edge) (j:List Oper) (i:Nat) (k:List (Nat×Nat)) (g:List (Nat×H×H)) (c b:iz) (h:H) (m:jp):
 XB cx cf J l d (⟨f,a,q,p,o,none⟩::j) i k g c b h m=UY (fin cf h (jT a cx J ⟨c,b⟩ h)) cx cf J l d f a j i k g c b h m:=aba l d f a q p o j i k g c b h _
def DEK(q:Bool)(p:T)(d:H)(cx:Ctx)(cf:jB)(J:Nat)(o:af Oper)(b:List (Nat×Nat))(k:aa Tmp)(m:Op)(l:List Oper)(a:Nat)(i:List (Nat×Nat))(c:List (Nat×H×H))(g f:iz)(h:H)(j:jp):Prop:=match q with
 |true=>(yp b a h d i/\Rf cx J b a c m ⟨g,f⟩)/\Va p cx cf J o b k l (a+1) i (if mM b a=true then(a,h,d)::c else c) g f d j
 |false=>DLK (iM cx J ⟨g,f⟩ h m) p cx cf J o b k l a i c g f d j
@[simp]def U0 (p:T) (d:H) (o:af Oper) (b:List (Nat×Nat)) (k:aa Tmp) (m:Op) (l:List Oper) (a:Nat) (f:List (Nat×Nat)) (c:List (Nat×H×H)) (i g:iz) (h:H) (j:jp):DEK true p d cx cf J o b k m l a f c i g h j=((yp b a h d f/\Rf cx J b a c m ⟨i,g⟩)/\Va p cx cf J o b k l (a+1) f (if mM b a=true then(a,h,d)::c else c) i g d j):=id rfl
@[simp]def QN (p:T) (i:H) (o:af Oper) (d:List (Nat×Nat)) (f:aa Tmp) (m:Op) (k:List Oper) (j:Nat) (l:List (Nat×Nat)) (g:List (Nat×H×H)) (b a:iz) (h:H) (c:jp):DEK false p i cx cf J o d f m k j l g b a h c=DLK (iM cx J ⟨b,a⟩ h m) p cx cf J o d f k j l g b a i c:=id rfl
@[simp]theorem afs (c:T) (q:H) (u:af Oper) (i:List (Nat×Nat)) (p:aa Tmp) (a:Op) (s:List Oper) (k:Nat) (t:List (Nat×Nat)) (j:List (Nat×H×H)) (d b:iz) (h:H) (o:jp):
 UY (some (c,q)) cx cf J u i p a s k t j d b h o=DEK (jb a) c q cx cf J u i p a s k t j d b h o:=by
 unfold UY;rw[BH];unfold DK;cases hE:jb a with
 |true=>
  rw[aq rfl,U0];have:(∀m f c g,a= .store m f c->Z (ir cx J ⟨d,b⟩ f) eG=some g->nV i k g j)↔Rf cx J i k j a ⟨d,b⟩:=by
   constructor
   ·intro l;cases a<;>first|exact trivial|skip
    rename_i m f c;rw[D6];cases r:Z (ir cx J ⟨d,b⟩ f) eG with
    |none=>simp
    |some g=>simp_all
   ·intro l m f c g v r;subst v;rw[D6,r]at l;exact l
  rw[this];rfl
 |false=>
  rw[ao Y,QN];cases iM cx J ⟨d,b⟩ h a<;>rfl
section
variable (e:Env)(h:H)
@[simp]def Yz (a:ab) (c b:ah):jb (.store a c b)=true:=id rfl
@[simp]def YA (b:ah) (a:af ah) (c:af ab):jb (.call ⟨.value b,a,c⟩)=true:=id rfl
@[simp]def YB (a:Builtin) (b:af ah) (c:af ab):jb (.call ⟨.builtin a,b,c⟩)=(match a with| .len| .min| .max=>false|_=>true):=id rfl
@[simp]def aag (a:ah):jb (.move a)=false:=id rfl
@[simp]def Wi (a:ah):jb (.assign a)=false:=id rfl
@[simp]def aah (a:ab) (b:ah):jb (.load a b)=false:=id rfl
@[simp]def aek (a:ah):jb (.nilCheck a)=false:=id rfl
@[simp]def aeo (b:ab) (c:ah) (a:Nat):jb (.fieldAddr b c a)=false:=id rfl
@[simp]def aen (a:ab) (b c:ah):jb (.indexAddr a b c)=false:=id rfl
@[simp]def abI (a:BinOp) (b c:ab) (d f:ah):jb (.binOp a b d f c)=false:=id rfl
@[simp]def YD (a:ab):jb (.alloc a)=false:=id rfl
@[simp]def YC (b:ab) (a:af (Nat×ah)):jb (.build b a)=false:=id rfl
@[simp]def aeq (b:ab) (n:Nat) (a:af (Nat×ah)):jb (.buildSlice b n a)=false:=id rfl
@[simp]def ael (a:ab) (b c:ah):jb (.makeSlice a b c)=false:=id rfl
@[simp]def aej (d:ab) (f:ah) (a b c:aa ah):jb (.slice d f a b c)=false:=id rfl
@[simp]def aep (b:ah) (a:Nat):jb (.extract b a)=false:=id rfl
@[simp]def aem (c:Fn) (a b:af ah):jb (.makeFunc c a b)=false:=id rfl
@[simp]def afS (b:ab) (a:ah):iM cx J e h (.load b a)=Z (ir cx J e a) eG:=id rfl
@[simp]def aiM (b:ab) (a c:ah):iM cx J e h (.indexAddr b a c)=Z (ir cx J e a) eG:=id rfl
@[simp]def aiI (f:ab) (a:ah) (b c d:aa ah):iM cx J e h (.slice f a b c d)=Z (ir cx J e a) eG:=id rfl
@[simp]def aef (a:ab):iM cx J e h (.alloc a)=some h.size:=id rfl
@[simp]def aiP (b:ab) (n:Nat) (a:af (Nat×ah)):iM cx J e h (.buildSlice b n a)=some h.size:=id rfl
@[simp]def aiK (a:ab) (b c:ah):iM cx J e h (.makeSlice a b c)=some h.size:=id rfl
@[simp]def afR (a:ah):iM cx J e h (.move a)=none:=id rfl
@[simp]def abH (a:ah):iM cx J e h (.assign a)=none:=id rfl
@[simp]def aiJ (a:ah):iM cx J e h (.nilCheck a)=none:=id rfl
@[simp]def aiN (b:ab) (c:ah) (a:Nat):iM cx J e h (.fieldAddr b c a)=none:=id rfl
@[simp]def ahI (a:BinOp) (b c:ab) (d f:ah):iM cx J e h (.binOp a b d f c)=none:=id rfl
@[simp]def aee (b:ab) (a:af (Nat×ah)):iM cx J e h (.build b a)=none:=id rfl
@[simp]def aiO (b:ah) (a:Nat):iM cx J e h (.extract b a)=none:=id rfl
@[simp]def afT (a:Call):iM cx J e h (.call a)=none:=id rfl
@[simp]def aiL (c:Fn) (a b:af ah):iM cx J e h (.makeFunc c a b)=none:=id rfl
@[simp]def abZ (a b c d:Nat):eG (.ptr a b c d)=some a:=id rfl
@[simp]theorem Cx (a b f d:Nat) (c:Bool):eG (.arr a b f d c)=some a:=id rfl
@[simp]def aa2 (a:List T) (b:Bool):eG (.ed a b)=none:=id rfl
@[simp]def aa3 (a:List T):eG (.j9 a)=none:=id rfl
@[simp]def ab0 (a:ak) (n:Int):eG (.int a n)=none:=id rfl
end
variable {dl:DL}
def QK(cx:Ctx)(cf:jB)(J:Nat)(a:List Oper)(f:aa (List (Nat×Nat)))(c:iz)(h:H)(b:jp):Prop:=match f with
 |none=>RK cx cf J a.toArray a c .nil h b
 |some d=>XB cx cf J a.toArray d a 0 [] [] c .nil h b
@[simp]def agI (a:List Oper) (c:iz) (h:H) (b:jp):QK cx cf J a none c h b=RK cx cf J a.toArray a c .nil h b:=id rfl
@[simp]def agG (a:List Oper) (c:List (Nat×Nat)) (d:iz) (h:H) (b:jp):QK cx cf J a (some c) d h b=XB cx cf J a.toArray c a 0 [] [] d .nil h b:=id rfl
def YR(c:aa (Env×H))(d:jp):W (Z c λg=>two g λb a=>some (.normal,(⟨b.vars,.nil⟩:Env),a)) d=∃b a,c=some (b,a)/\d.n ⟨b.vars,.nil⟩ a:=by
 cases c with
 |none=>apply propext;constructor<;>(first|(rintro⟨k,a,j,i,_⟩;simp_all)|simp)
 |some f=>
  obtain⟨b,a⟩:=f;simp only[eJ,lQ,F1,ar,aB]
  grind
@[simp]def aij (id:Nat) (b:List Oper) (f:Bool) (c d:iz) (h:H) (a:jp):W (j4 cx cf n J dl (.region id b.toArray f) ⟨c,d⟩ h) a=QK cx cf J b (dl.lookup id) c h a:=by
 show W (Rs cx cf J dl id b.toArray ⟨c,d⟩ h) a=_;unfold Rs;cases dl.lookup id with
 |none=>exact YR _ a
 |some g=>exact YR _ a
@[simp]def aih (b c:Code) (e:Env) (h:H) (a:jp):W (j4 cx cf n J dl (.seq b c) e h) a=W (j4 cx cf n J dl b e h) (Ie (j4 cx cf n J dl c) a):=ae9 _ _ e h a
@[simp]def afc (id:Nat) (b:Code) (e:Env) (h:H) (a:jp):W (j4 cx cf n J dl (.block id b) e h) a=W (j4 cx cf n J dl b e h) (un id a):=Xp id _ e h a
def CK(d:aa T)(cx:Ctx)(cf:jB)(n J:Nat)(dl:DL)(b c:Code)(e:Env)(h:H)(a:jp):Prop:=TY d (W (j4 cx cf n J dl b e h) a) (W (j4 cx cf n J dl c e h) a)
@[simp]def fU (d:Bool) (b c:Code) (e:Env) (h:H) (a:jp):CK (some (.bool d)) cx cf n J dl b c e h a=if d=true then W (j4 cx cf n J dl b e h) a else W (j4 cx cf n J dl c e h) a:=id rfl
@[simp]def agD (a:Nat) (f g:Code) (c b:iz) (h:H) (d:jp):W (j4 cx cf n J dl (.cond (.tmp a) f g) ⟨c,b⟩ h) d=CK (if(J>>>a)&&&1=1 then d8 c a else d8 b a) cx cf n J dl f g ⟨c,b⟩ h d:=by
 rw[<-DF];apply propext;unfold CK;show W (Z (Env.get J ⟨c,b⟩ a) λi=>_) d↔_;cases Env.get J ⟨c,b⟩ a with
 |none=>simp[Z,TY,UJ]
 |some i=>
  simp only[eJ];cases i<;>simp only[TY,UJ];rename_i j;cases j<;>simp
@[simp]theorem agB (b:Code) (e:Env) (h:H) (a:jp):W (j4 cx cf n J dl (.loop b) e h) a=W (pT (j4 cx cf n J dl b) n e h) a:=rfl
@[simp]def agA (e:Env) (h:H) (a:jp):W (j4 cx cf n J dl .skip e h) a=a.n e h:=F1 e h a
@[simp]def agC (id:Nat) (e:Env) (h:H) (a:jp):W (j4 cx cf n J dl (.exit id) e h) a=a.x id e h:=I1 id e h a
@[simp]def aii (e:Env) (h:H) (a:jp):W (j4 cx cf n J dl .ret e h) a=a.r e h:=afa e h a
end
end
section
noncomputable section
variable {cx:Ctx}{cf:jB}{J:Nat}{e:Env}{h:H}
attribute [simp] Tq nC kl H.mh
@[simp]def adF (c b:iz) (a:Nat):ir cx J ⟨c,b⟩ (.tmp a)=if(J>>>a)&&&1=1 then d8 c a else d8 b a:=DF c b a
@[simp]theorem adG (a:ak) (b:Int):ir cx J e (.const (.int a b))=some (.int a b):=rfl
@[simp]theorem abv (a:Bool):ir cx J e (.const (.bool a))=some (.bool a):=rfl
@[simp]theorem abu:ir cx J e (.const (.slice none 0 0))=some (.ed [] false):=rfl
@[simp]theorem R9 (b:ByteArray):ir cx J e (.const (.string b))=some (.str (b.data.toList.map UInt8.toNat)):=by
 show(Z (Cv b.data.toList) λa=>some (T.str a))=_;have:∀a:List UInt8,Cv a=some (a.map UInt8.toNat):=by
  intro a;induction a with
  |nil=>rfl
  |cons f a c=>
   show(Z (iQ f.toNat) λg=>Z (Cv a) λd=>some (g::d))=_;rw[c];simp
 rw[this];rfl
@[simp]theorem PE (a:aj):ir cx J e (.func a)=some (.func a []):=rfl
@[simp]theorem Jz (a:List ah):r7 cx J e a=iu (ir cx J e) a:=rfl
def kT(a:Int):aa Nat:=if 0<=a then some a.toNat else none
@[simp]theorem abk (b:ak) (a:Int):rN (.int b a)=kT a:=by
 unfold kT;cases a with
 |ofNat c=>rw[aq Y];rfl
 |negSucc c=>rw[ao D];rfl
@[simp]theorem Lx (a:Nat):kT (a:Int)=some a:=by unfold kT;rw[aq D];rfl
@[simp]def Za (a:Nat):kT (no_index (OfNat.ofNat a):Int)=some a:=Lx a
def fy{a:Int}(h:0<=a):kT a=some a.toNat:=by unfold kT;rw[aq h]
@[simp]theorem afM (a:ah):jT (.move a) cx J e h=val h (ir cx J e a):=rfl
@[simp]theorem abw (a:ah):jT (.assign a) cx J e h=val h (ir cx J e a):=rfl
def ou(a:aa T)(b c:aa mS):aa mS:=Z a λa=>match a with| .bool d=>if d=true then b else c|_=>none
@[simp]theorem fh (c:Bool) (a b:aa mS):ou (some (.bool c)) a b=if c=true then a else b:=rfl
@[simp]def V5 (a b c:ah):jT (.pick a b c) cx J e h=ou (ir cx J e a) (val h (ir cx J e b)) (val h (ir cx J e c)):=by
 show(Z (ir cx J e a) λa=>_)=_;unfold ou;cases ir cx J e a with
 |none=>rfl
 |some f=>cases f<;>first|rfl|(rename_i d;cases d<;>rfl)
@[simp]theorem aai (a:Ty):yP cx a=(match a.u with
 | .array _ b=>Option.casesOn (cx.ty b) false λd=>(match d.u with| .int c=>F8 c .u8|_=>false)
 |_=>false):=rfl
@[simp]def ad1 (b:ab):jT (.alloc b) cx J e h=Z (cx.ty b) λa=>if yP cx a=true then some (.val (.ptr h.size 0 0 0) (h.cons (mL 1 true a.zero)))else some (.val (.ptr h.size 0 0 0) (h.cons (mL a.size true [a.kR]))):=by
 show(Z (cx.ty b) λa=>_)=_;cases cx.ty b with
 |none=>rfl
 |some a=>
  simp only[eJ];cases yP cx a<;>simp
@[simp]theorem Qc (b:Nat) (c:Bool) (a:List T):mL b c a=⟨b,0,0,c,false,a⟩:=rfl
@[simp]def ahA (d:ab) (b:ah):jT (.box d b) cx J e h=Z (ir cx J e b) λa=>iG a.iN (some (.val (.ptr h.size 0 0 0) (h.cons ⟨a.cells.length,0,0,true,false,[a]⟩))):=by
 show(Z (ir cx J e b) λa=>iG a.iN (j7 (h.new (λc=> .ptr c 0 0 0) (mL (ml a.cells) true [a]))))=_;simp
def Ad(cx:Ctx)(J:Nat)(e:Env):List (Nat×ah)->aa (List (Nat×T))
 | []=>some []
 |(b,d)::c=>Z (ir cx J e d) λa=>iG a.iN (Z (Ad cx J e c) λf=>some ((b,a)::f))
@[simp]theorem ZE:Ad cx J e []=some []:=rfl
@[simp]theorem Jx (a:Nat) (c:ah) (b:List (Nat×ah)):Ad cx J e ((a,c)::b)=Z (ir cx J e c) λd=>iG d.iN (Z (Ad cx J e b) λf=>some ((a,d)::f)):=rfl
def EC(a:List (Nat×ah)):partsOf cx J e a=Ad cx J e a:=by
 induction a with
 |nil=>rfl
 |cons i a g=>
  obtain⟨f,c⟩:=i;show(Z (Z (ir cx J e c) λb=>iG b.iN (some (f,b))) λk=>Z (partsOf cx J e a) λj=>some (k::j))=_;rw[g,Jx];cases ir cx J e c with
  |none=>rfl
  |some b=>cases d:b.iN<;>simp[d]
def Ft(cx:Ctx)(c:List (Nat×ab)):List (Nat×T)->List T->aa (List T)
 | [],a=>some a
 |(g,d)::i,a=>Z (c[g]?) λb=>Z (cx.ty b.2) λj=>iG (decide (d.cells.length=j.size)) (Z (mg a b.1 d.cells) λf=>Ft cx c i f)
@[simp]theorem abO (b:List (Nat×ab)) (a:List T):Ft cx b [] a=some a:=rfl
@[simp]theorem MJ (a:List (Nat×ab)) (f:Nat) (b:T) (g:List (Nat×T)) (c:List T):Ft cx a ((f,b)::g) c=Z (a[f]?) λd=>Z (cx.ty d.2) λj=>iG (decide (b.cells.length=j.size)) (Z (mg c d.1 b.cells) λi=>Ft cx a g i):=rfl
def Iy(g:List (Nat×ab)):∀(c:List (Nat×T)) (f:List T),nR (λb=>Z (nJ g b) λa=>Z (cx.ty a.2) λd=>some (a.1,d.size)) c f=Ft cx g c f:=by
 intro c;induction c with
 |nil=>intro f;rfl
 |cons l c m=>
  intro f;obtain⟨b,j⟩:=l;show(Z (Z (nJ g b) λa=>Z (cx.ty a.2) λd=>some (a.1,d.size)) λi=>iG (Nat.beq (ml j.cells) i.2) (Z (mg f i.1 j.cells) λk=>nR (λb=>Z (nJ g b) λa=>Z (cx.ty a.2) λd=>some (a.1,d.size)) c k))=_;rw[MJ,lI];cases g[b]? with
  |none=>rfl
  |some a=>
   simp only[eJ];cases cx.ty a.2 with
   |none=>rfl
   |some d=>simp_all
def Fx(b:Nat):List (Nat×T)->List T->aa (List T)
 | [],a=>some a
 |(f,c)::g,a=>iG (decide (c.cells.length=b)) (Z (mg a (f*b) c.cells) λd=>Fx b g d)
@[simp]theorem abP (b:Nat) (a:List T):Fx b [] a=some a:=rfl
@[simp]theorem aav (a d:Nat) (b:T) (f:List (Nat×T)) (c:List T):Fx a ((d,b)::f) c=iG (decide (b.cells.length=a)) (Z (mg c (d*a) b.cells) λg=>Fx a f g):=rfl
def Gt(a:Nat):∀(b:List (Nat×T)) (c:List T),nR (λd=>some (Nat.mul d a,a)) b c=Fx a b c:=by
 intro b;induction b with
 |nil=>intro c;rfl
 |cons i b j=>
  intro c;obtain⟨d,f⟩:=i;show(iG (Nat.beq (ml f.cells) a) (Z (mg c (Nat.mul d a) f.cells) λg=>nR (λd=>some (Nat.mul d a,a)) b g))=_;simp_all
@[simp]def abn (c b:T) (a:List T):mg (c::a) 0 [b]=some (b::a):=by rw[vM];simp
@[simp]def abm (f c d:T) (a b:List T):mg (f::a) 0 (c::d::b)=Z (mg a 0 (d::b)) λg=>some (c::g):=by
 rw[vM,vM];simp only[aP,cJ,List.take_zero,cG];by_cases hl:b.length+1<=a.length
 ·rw[aq D,aq D];simp
 simp_all[ao]
@[simp]theorem adk (a:T) (b d:List T) (c:Nat):mg (a::b) (c+1) d=Z (mg b c d) λf=>some (a::f):=rfl
def M5(cx:Ctx)(h:H)(b:Ty)(c:List (Nat×T)):aa mS:=match b.u with
 | .struct f=>Z (Ft cx f c b.zero) λa=>some (.val (.agg a) h)
 | .array _ d=>Z (cx.ty d) λg=>Z (Fx g.size c b.zero) λa=>some (.val (.agg a) h)
 |_=>none
@[simp]theorem abY (a:Ty) (c:List (Nat×T)):M5 cx h a c=(match a.u with
 | .struct f=>Z (Ft cx f c a.zero) λb=>some (.val (.agg b) h)
 | .array _ d=>Z (cx.ty d) λg=>Z (Fx g.size c a.zero) λb=>some (.val (.agg b) h)
 |_=>none):=rfl
@[simp]def ad0 (c:ab) (a:List (Nat×ah)):jT (.build c a.toArray) cx J e h=Z (cx.ty c) λb=>Z (Ad cx J e a) λa=>M5 cx h b a:=by
 show(Z (cx.ty c) λb=>Z (partsOf cx J e a) λa=>_)=_;rw[EC];congr 1;funext b;congr 1;funext a;unfold M5;cases b.u<;>first|rfl|(simp only[Iy,Gt,AC])
def Cs(c:Nat):List (Nat×T)->List T->aa (List T)
 | [],a=>some a
 |(b,d)::f,a=>iG (decide (d.cells.length=c)) (iG (decide (b<a.length)) (Cs c f (a.set b d)))
@[simp]theorem aay (b:Nat) (a:List T):Cs b [] a=some a:=rfl
@[simp]theorem KO (c b:Nat) (d:T) (f:List (Nat×T)) (a:List T):Cs c ((b,d)::f) a=iG (decide (d.cells.length=c)) (iG (decide (b<a.length)) (Cs c f (a.set b d))):=rfl
def Ix(c:Nat):∀(b:List (Nat×T)) (a:List T),rh c b a=Cs c b a:=by
 intro b;induction b with
 |nil=>intro a;rfl
 |cons k b j=>
  intro a;obtain⟨d,f⟩:=k;show(iG (Nat.beq (ml f.cells) c) (Z (lU a d f) λg=>rh c b g))=_;simp only[kq,BC,j,KO,lZ];by_cases i:d<a.length<;>simp[i]
@[simp]def U5 (f:ab) (b:Nat) (c:List (Nat×ah)):jT (.buildSlice f b c.toArray) cx J e h=Z (cx.ty f) λd=>(match d.u with
 | .slice g=>Z (cx.ty g) λa=>Z (Ad cx J e c) λc=>iG (decide (1<=a.size))<|iG (decide (b*a.size<=65536)) (Z (Cs a.size c (List.replicate b a.kR)) λi=>
  some (.val (.arr h.size 0 0 b false) (h.cons ⟨a.size,0,0,true,false,i⟩)))
 |_=>none):=by
 show(Z (cx.ty f) λd=>_)=_;congr 1;funext d;cases d.u<;>first|rfl|skip
 simp[Ja,Qc,Xg,H.mh,rx,Ix,EC]
@[simp]theorem afN (b:ab) (a:ah):jT (.load b a) cx J e h=Z (cx.ty b) λc=>Z (ir cx J e a) λa=>val h (h.load c a):=rfl
def ldB(a:jv)(c d f:Nat)(g:Ty):aa T:=iG (decide (a.ep=c)) (if a.it=true then none else Z (a.fR[d]?) λe=>Z (kH f e.cells) λb=>kU g b)
@[simp]def aac (l b m:Nat) (k f:Bool) (c:List T) (a d g:Nat) (i:Ty):ldB ⟨l,b,m,k,f,c⟩ a d g i=iG (decide (b=a)) (if f=true then none else Z (c[d]?) λe=>Z (kH g e.cells) λj=>kU i j):=id rfl
@[simp]def aab (j:Ty) (b c f i:Nat):h.load j (.ptr b c f i)=Z (h.get b) λa=>ldB a c f i j:=by
 show(Z (Z (h.get b) λa=>jv.casesOn a λ_ d _ _ g l=>iG (Nat.beq d c) (Bool.casesOn g (nJ l f) none)) λe=>Z (kH i e.cells) λk=>kU j k)=_;cases h.get b with
 |none=>rfl
 |some a=>
  obtain⟨o,d,p,n,g,m⟩:=a;simp only[eJ,aac,BC,lI];cases decide (d=c)<;>cases g<;>simp
def Jg(h:H)(c:Nat)(a:jv)(f b g:Nat)(i:List T):aa H:=iG (decide (a.ep=f)) (if a.it=true then none else Z (a.fR[b]?) λe=>Z (mG e g i) λd=>some (fg h c ⟨a.sz,a.ep,a.ver+1,a.exact,false,a.fR.set b d⟩))
@[simp]def Ze (d k a l:Nat) (g i:Bool) (b:List T) (f c j:Nat) (m:List T):Jg h d ⟨k,a,l,g,i,b⟩ f c j m=iG (decide (a=f)) (if i=true then none else Z (b[c]?) λe=>Z (mG e j m) λn=>some (fg h d ⟨k,a,l+1,g,false,b.set c n⟩)):=id rfl
def AU{a:Nat}{m:jv}(f:h.get a=some m)(d:jv):h.put a d=some (fg h a d):=by
 have:∃c,h.put a d=some c:=by
  obtain⟨b,g,i⟩:=h;rw[H.get_eq]at f;simp only at f;by_cases k:a<b
  ·rw[aq k]at f;have hl:b-1-a<i.length:=by
    grind
   show∃c,(iG (Nat.blt a b) (Z (lU i (Nat.sub (Nat.sub b 1) a) d) λj=> @Bool.rec (λ_=>aa H) (some ⟨b,g,j⟩) (some ⟨b,a,j⟩) (Nat.blt a g)))=some c;rw[show Nat.blt a b=true by rw[aJ];exact k,iR,lZ,aq D,eJ];cases Nat.blt a g<;>exact⟨_,rfl⟩
  grind
 obtain⟨c,l⟩:=this;unfold fg;rw[l];rfl
@[simp]def afD (l:Ty) (a i b g:Nat) (c:T):h.store l (.ptr a i b g) c=iG (decide (c.cells.length=l.size)) (Z (h.get a) λd=>Jg h a d i b g c.cells):=by
 show(iG (Nat.beq (ml c.cells) l.size) (Z (h.get a) λd=>jv.casesOn d λo j p exact k n=>
  iG (Nat.beq j i) (@Bool.rec (λ_=>aa H) (Z (nJ n b) λe=>Z (mG e g c.cells) λm=>Z (lU n b m) λf=>
   Z (iQ (Nat.succ p)) λq=>h.put a ⟨o,j,q,exact,false,f⟩) none k)))=_
 simp only[kq,BC];cases t:h.get a with
 |none=>rfl
 |some d=>
  obtain⟨o,j,p,r,k,f⟩:=d;simp only[eJ,Ze];congr 1;congr 1;cases k with
  |true=>rfl
  |false=>
   simp only[lI,cD,bh];cases s:f[b]? with
   |none=>rfl
   |some e=>
    simp only[eJ];cases mG e g c.cells with
    |none=>rfl
    |some m=>
     have u:b<f.length:=by
      grind
     simp_all[AU,jd,lZ,eJ]
@[simp]theorem adV (b:ab) (a d:ah):jT (.store b a d) cx J e h=Z (cx.ty b) λg=>Z (ir cx J e a) λa=>Z (ir cx J e d) λc=>iG c.iN (Z (h.store g a c) λf=>some (.val .undef f)):=rfl
def ncW(h:H)(a:T):aa mS:=match a with| .ptr .. | .j9 _| .func .. =>some (.val a h)|_=>none
@[simp]theorem afO (a b c d:Nat):ncW h (.ptr a b c d)=some (.val (.ptr a b c d) h):=rfl
@[simp]theorem Yv (a:ah):jT (.nilCheck a) cx J e h=Z (ir cx J e a) λb=>ncW h b:=rfl
@[simp]def abz (d f:ah) (b:ak) (c:Int) (a:T):A7 d f (.int b c) a=true:=id rfl
@[simp]def aby (c d:ah) (b:List Nat) (a:T):A7 c d (.str b) a=true:=id rfl
@[simp]def Z4 (c d:ah) (b:Bool) (a:T):A7 c d (.bool b) a=true:=id rfl
@[simp]def ahz (g j:ab) (c d:ah):jT (.binOp .eql g c d j) cx J e h=Z (cx.ty g) λi=>Z (ir cx J e c) λa=>Z (ir cx J e d) λb=>iG (A7 c d a b) (Z (Lm cx i a b) λf=>some (.val (.bool f) h)):=by
 show(Z (cx.ty g) λi=>Z (ir cx J e c) λa=>Z (ir cx J e d) λb=>iG (A7 c d a b) (Z (Lm cx i a b) λf=>val h (zf f)))=_;simp
@[simp]def ahq (g j:ab) (c d:ah):jT (.binOp .neq g c d j) cx J e h=Z (cx.ty g) λi=>Z (ir cx J e c) λa=>Z (ir cx J e d) λb=>iG (A7 c d a b) (Z (Lm cx i a b) λf=>some (.val (.bool !f) h)):=by
 show(Z (cx.ty g) λi=>Z (ir cx J e c) λa=>Z (ir cx J e d) λb=>iG (A7 c d a b) (Z (Lm cx i a b) λf=>val h (zf (!f))))=_;simp
@[simp]def agb (d:Ty) (a:ak) (b c:Int) (f:d.u= .int a):Lm cx d (.int a b) (.int a c)=some (decide (b=c)):=by unfold Lm;rw[f];simp
@[simp]def aga (c:Ty) (a b:List Nat) (d:c.u= .str):Lm cx c (.str a) (.str b)=some (decide (a=b)):=by unfold Lm;rw[d];simp
@[simp]def aeM (c:Ty) (a b:Bool) (d:c.u= .bool):Lm cx c (.bool a) (.bool b)=some (a==b):=by unfold Lm;rw[d];simp
def zq(c:BinOp)(d f:aa T)(h:H):aa mS:=Z d λa=>Z f λb=>val h (binop c a b)
@[simp]theorem aev (c:BinOp) (a b:T):zq c (some a) (some b) h=val h (binop c a b):=rfl
@[simp]theorem ahB (c d:ab) (a b:ah):jT (.binOp .add c a b d) cx J e h=zq .add (ir cx J e a) (ir cx J e b) h:=rfl
@[simp]theorem ahn (c d:ab) (a b:ah):jT (.binOp .sub c a b d) cx J e h=zq .sub (ir cx J e a) (ir cx J e b) h:=rfl
@[simp]theorem ahr (c d:ab) (a b:ah):jT (.binOp .mul c a b d) cx J e h=zq .mul (ir cx J e a) (ir cx J e b) h:=rfl
@[simp]theorem ahp (c d:ab) (a b:ah):jT (.binOp .quo c a b d) cx J e h=zq .quo (ir cx J e a) (ir cx J e b) h:=rfl
@[simp]theorem aho (c d:ab) (a b:ah):jT (.binOp .rem c a b d) cx J e h=zq .rem (ir cx J e a) (ir cx J e b) h:=rfl
@[simp]theorem ahu (c d:ab) (a b:ah):jT (.binOp .lss c a b d) cx J e h=zq .lss (ir cx J e a) (ir cx J e b) h:=rfl
@[simp]theorem ahv (c d:ab) (a b:ah):jT (.binOp .leq c a b d) cx J e h=zq .leq (ir cx J e a) (ir cx J e b) h:=rfl
@[simp]theorem ahx (c d:ab) (a b:ah):jT (.binOp .gtr c a b d) cx J e h=zq .gtr (ir cx J e a) (ir cx J e b) h:=rfl
@[simp]theorem ahy (c d:ab) (a b:ah):jT (.binOp .geq c a b d) cx J e h=zq .geq (ir cx J e a) (ir cx J e b) h:=rfl
@[simp]theorem aiE (a:UnOp) (d:ab) (b:ah):jT (.unOp a d b) cx J e h=Z (ir cx J e b) λc=>val h (unop a c):=rfl
@[simp]theorem V8 (c:ab) (a:ah) (b:Nat):jT (.fieldAddr c a b) cx J e h=Z (Bo cx c b) λd=>Z (ir cx J e a) λa=>faV d.1 h a:=rfl
@[simp]def aaw (c:ab) (a:Nat):Bo cx c a=Z (cx.ty c) λd=>(match d.u with| .struct b=>b[a]? |_=>none):=by
 show(Z (cx.ty c) λd=>match d.u with| .struct b=>nJ b a|_=>none)=_;simp
def fdW(h:H)(off:Nat)(c:Ty)(d:T):aa mS:=match d with| .agg a=>Z (kH off a) λb=>val h (kU c b)|_=>none
@[simp]theorem af8 (off:Nat) (b:Ty) (a:List T):fdW h off b (.agg a)=Z (kH off a) λc=>val h (kU b c):=rfl
def ixW(cx:Ctx)(h:H)(g:Ty)(d:T)(c:Nat):aa mS:=match g.u with
 | .slice a=>Z (cx.ty a) λb=>lM h b d c
 | .array f a=>Z (cx.ty a) λb=>qr h f b d c
 |_=>none
@[simp]theorem ahR (f:Ty) (d:T) (b:Nat):ixW cx h f d b=(match f.u with
 | .slice a=>Z (cx.ty a) λc=>lM h c d b
 | .array g a=>Z (cx.ty a) λc=>qr h g c d b
 |_=>none):=rfl
@[simp]theorem V7 (c:ab) (b a:ah):jT (.indexAddr c b a) cx J e h=Z (cx.ty c) λf=>Z (ir cx J e b) λb=>Z (ir cx J e a) λa=>Z (rN a) λd=>ixW cx h f b d:=rfl
@[simp]def abL (d:Ty) (b:List T) (f:Bool) (c:Nat):lM h d (.ed b f) c=Z (b[c]?) λa=>iG (decide (a.cells.length=d.size)) (some (.val (.j9 a.cells) h)):=by
 show(Z (nJ b c) λa=>iG (Nat.beq (ml a.cells) d.size) (some (mS.val (.j9 a.cells) h)))=_;simp
@[simp]def TC (i:Ty) (a c g f:Nat) (j:Bool) (d:Nat):lM h i (.arr a c g f j) d=iG (decide (d<f)) (Z (h.get a) λb=>iG (decide (b.sz=i.size))<|iG (decide (b.ep=c)) (some (.val (.ptr a c (g+d) 0) h))):=by
 show(iG (Nat.blt d f) (Z (h.get a) λb=>iG (Nat.beq b.sz i.size)<|iG (Nat.beq b.ep c) (Z (iQ (Nat.add g d)) λk=>some (mS.val (.ptr a c k 0) h))))=_;simp
def icW(cx:Ctx)(h:H)(l:Ty)(c:T)(a:Nat):aa mS:=match l.u with
 | .str=>(match c with| .str k=>Z (k[a]?) λd=>some (.val (.int .u8 d) h)|_=>none)
 | .array i g=>(match c with
  | .agg f=>Z (cx.ty g) λb=>iG (decide (a<i)) (Z (kH (a*b.size) f) λj=>val h (kU b j))
  |_=>none)
 |_=>none
@[simp]theorem ahS (d:Ty) (b:T) (a:Nat):icW cx h d b a=(match d.u with
 | .str=>(match b with| .str l=>Z (l[a]?) λf=>some (.val (.int .u8 f) h)|_=>none)
 | .array j i=>(match b with
  | .agg g=>Z (cx.ty i) λc=>iG (decide (a<j)) (Z (kH (a*c.size) g) λk=>val h (kU c k))
  |_=>none)
 |_=>none):=rfl
@[simp]theorem adX (d:ab) (a b:ah):jT (.index d a b) cx J e h=Z (cx.ty d) λf=>Z (ir cx J e a) λa=>Z (ir cx J e b) λb=>Z (rN b) λc=>icW cx h f a c:=by
 show(Z (cx.ty d) λf=>Z (ir cx J e a) λa=>Z (ir cx J e b) λb=>Z (rN b) λc=>match f.u with
  | .str=>(match a with| .str n=>Z (nJ n c) λi=>val h (some (.int .u8 (.ofNat i)))|_=>none)
  | .array l k=>(match a with
   | .agg j=>Z (cx.ty k) λg=>iG (Nat.blt c l) (Z (kH (Nat.mul c g.size) j) λm=>val h (kU g m))
   |_=>none)
  |_=>none)=_
 simp only[lI,Xf,AC];rfl
@[simp]theorem Z1 (b:ah) (a:Nat):jT (.extract b a) cx J e h=Z (ir cx J e b) λc=>exV h c a:=rfl
@[simp]def adZ (b:aj) (a:List ah) (f:af ab):jT (.call ⟨.value (.func b),a.toArray,f⟩) cx J e h=Z (iu (ir cx J e) a) λc=>some (.call b c):=by
 show(Z (r7 cx J e a) λa=>Z (some (T.func b [])) λg=>match g with
  | .func b d=>Z (GA a d) λc=>some (mS.call b c)
  |_=>none)=_
 simp
def aeS(c:List T)(d:T):aa mS:=match d with| .func b a=>some (.call b (c++a))|_=>none
@[simp]theorem abS (c:List T) (b:aj) (a:List T):aeS c (.func b a)=some (.call b (c++a)):=rfl
@[simp]theorem adY (c:Tmp) (a:List ah) (i:af ab):jT (.call ⟨.value (.tmp c),a.toArray,i⟩) cx J e h=Z (iu (ir cx J e) a) λb=>Z (ir cx J e (.tmp c)) λd=>aeS b d:=by
 show(Z (r7 cx J e a) λa=>Z (ir cx J e (.tmp c)) λd=>match d with
  | .func g f=>Z (GA a f) λb=>some (mS.call g b)
  |_=>none)=_
 simp only[Jz,qz,eJ];rfl
@[simp]theorem ahw (a:List ah) (b:ab):jT (.call ⟨.builtin .len,a.toArray,#[b]⟩) cx J e h=Z (iu (ir cx J e) a) λc=>(match c with| [d]=>QF cx h [b] d|_=>none):=rfl
def Gk(cx:Ctx)(h:H)(g:Ty)(a:T):aa mS:=match g.u with
 | .str=>(match a with| .str f=>some (.val (.int .i64 f.length) h)|_=>none)
 | .slice _=>(match a with
  | .ed b _=>some (.val (.int .i64 b.length) h)
  | .iO=>some (.val (.int .i64 0) h)
  | .arr _ _ _ c _=>some (.val (.int .i64 c) h)
  |_=>none)
 | .array d _=>some (.val (.int .i64 d) h)
 |_=>none
def DD(b:Ty)(a:T):Gk cx h b a=(match b.u with
 | .str=>(match a with| .str g=>some (.val (.int .i64 g.length) h)|_=>none)
 | .slice _=>(match a with
  | .ed c _=>some (.val (.int .i64 c.length) h)
  | .iO=>some (.val (.int .i64 0) h)
  | .arr _ _ _ d _=>some (.val (.int .i64 d) h)
  |_=>none)
 | .array f _=>some (.val (.int .i64 f) h)
 |_=>none):=rfl
@[simp]def aeb (b:Ty) (a:List Nat) (c:b.u= .str):Gk cx h b (.str a)=some (.val (.int .i64 a.length) h):=by rw[DD,c]
@[simp]def abF (b:Ty) (a:List T) (c:Bool) (f:ab) (d:b.u= .slice f):Gk cx h b (.ed a c)=some (.val (.int .i64 a.length) h):=by rw[DD,d]
@[simp]def abE (a:Ty) (c:ab) (b:a.u= .slice c):Gk cx h a .iO=some (.val (.int .i64 0) h):=by rw[DD,b]
@[simp]def aec (b:Ty) (c d i a:Nat) (f:Bool) (j:ab) (g:b.u= .slice j):Gk cx h b (.arr c d i a f)=some (.val (.int .i64 a) h):=by rw[DD,g]
@[simp]def agw (a:ab) (c:T):QF cx h [a] c=Z (cx.ty a) λb=>Gk cx h b c:=by
 show(Z (nJ [a] 0) λa=>Z (cx.ty a) λb=>_)=_;simp only[lI,List.getElem?_cons_zero,eJ];congr 1;funext b;unfold Gk;cases b.u<;>first|rfl|(cases c<;>first|rfl|(simp;try rfl))
@[simp]theorem ahs (a:List ah) (b:af ab):jT (.call ⟨.builtin .min,a.toArray,b⟩) cx J e h=Z (iu (ir cx J e) a) λc=>mH .min cx h b.toList c:=rfl
@[simp]theorem aht (a:List ah) (b:af ab):jT (.call ⟨.builtin .max,a.toArray,b⟩) cx J e h=Z (iu (ir cx J e) a) λc=>mH .max cx h b.toList c:=rfl
@[simp]def ahD (f:List ab) (a:ak) (b c:Int):mH .min cx h f [.int a b,.int a c]=some (.val (.int a (min b c)) h):=by
 show val h (iG (F8 a a) (zU a (@Bool.rec (λ_=>Int) b c (NY c b))))=_;rw[uo,iR,qg,yN];simp only[AC,ar,mS.val.injEq,T.int.injEq,true_and,and_true];by_cases d:c<b
 ·rw[bI d];grind
 ·rw[aO d];grind
@[simp]def ahE (f:List ab) (a:ak) (b c:Int):mH .max cx h f [.int a b,.int a c]=some (.val (.int a (max b c)) h):=by
 show val h (iG (F8 a a) (zU a (@Bool.rec (λ_=>Int) b c (NY b c))))=_;rw[uo,iR,qg,yN];simp only[AC,ar,mS.val.injEq,T.int.injEq,true_and,and_true];by_cases d:b<c
 ·rw[bI d];grind
 ·rw[aO d];grind
end
end
section
abbrev hE:H:=⟨0,0,[]⟩
structure F6(P:ai)(cx:Ctx)(f:aj)(fn:Func)(J:Nat)(dl:DL):Prop where
 at_:P.funcs[f]? =some fn
 ok:zo ⟨fn,J,false,none⟩=true
 dr:oa dl (fn.body.getD .skip)=true
def nY(a:iz):Nat->List T->Prop
 |_,[]=>True
 |i,b::c=>d8 a i=some b/\nY a (i+1) c
@[simp]theorem abj (b:iz) (a:Nat):nY b a []=True:=rfl
@[simp]theorem YX (b:iz) (a:Nat) (c:T) (d:List T):nY b a (c::d)=(d8 b a=some c/\nY b (a+1) d):=rfl
def nQ(J:Nat):∀(d a:Nat) (f:List T),f.length<=d->∃b,nL J d a f=some b/\(∀c,c<a->d8 b c=none)/\nY b a f:=by
 intro d;induction d with
 |zero=>
  intro a f hl;have:f=[]:=aW D;subst this;exact⟨.nil,rfl,λ_ _=>rfl,trivial⟩
 |succ d q=>
  intro a f hl;have s:∀(e:List T) (b:iz) (c:Nat) (l:T) (g:Nat),c<g->nY b g e->nY (.cons c l b) g e:=by
   intro e;induction e with
   |nil=>simp
   |cons k e r=>
    intro b c l g t o;exact⟨by rw[nC,ao D];exact o.1,r b c l (g+1) D o.2⟩
  cases f with
  |nil=>
   have⟨b,i,m,n⟩:=q (a+1) [] Y;show∃b,(Z (iQ (Nat.succ a)) λj=> @Bool.rec (λ_=>aa iz) (nL J d j []) (Z (nL J d j []) λh=>some (.cons a .undef h)) (kS J a))=some b/\_;rw[jd,eJ];cases kS J a with
   |false=>exact⟨b,i,λc p=>m c D,trivial⟩
   |true=>
    refine⟨.cons a .undef b,?_,λc p=>?_,trivial⟩
    ·show(Z (nL J d (a+1) []) λh=>some (iz.cons a .undef h))=_;rw[i];rfl
    ·rw[nC,ao D];grind
  |cons k e=>
   have⟨b,i,m,n⟩:=q (a+1) e (by grind);refine⟨.cons a k b,?_,λc p=>?_,?_,s _ _ _ _ _ D n⟩
   ·show(Z (iQ (Nat.succ a)) λj=>Z (nL J d j e) λh=>some (iz.cons a k h))=_;rw[jd,eJ,i];rfl
   ·rw[nC,ao D];grind
   simp
def CA(cx:Ctx)(J:Nat)(d:List ResultVar)(e:iz)(b:H)(c:List T->Prop):Prop:=∃a,oq cx J ⟨e,.nil⟩ b d=some a/\c a
section
variable {P:ai}{cx:Ctx}{cf:jB}{J:Nat}
@[simp]def afe (e:iz) (c:H) (b:List T->Prop):CA cx J [] e c b=b []:=by
 apply propext;constructor
 ·rintro⟨d,hl,a⟩;have hl:some []=some d:=hl
  grind
 ·exact λa=>⟨[],rfl,a⟩
def WV(c:aa T)(b:T->Prop):Prop:=∃a,c=some a/\b a
@[simp]def agE (b:T) (d:T->Prop):WV (some b) d=d b:=by
 apply propext;constructor
 ·rintro⟨e,c,a⟩;simp only[ar]at c;subst c;exact a
 ·exact λa=>⟨b,rfl,a⟩
def HG(e:ResultVar)(f:List ResultVar)(a:iz)(b:H)(d:List T->Prop):CA cx J (e::f) a b d=
 WV (ResultVar.casesOn e (λc=>Env.get J ⟨a,.nil⟩ c) (λg c=>Z (Env.get J ⟨a,.nil⟩ g) λi=>Z (cx.ty c) λj=>b.load j i)) λk=>CA cx J f a b λh=>d (k::h):=by
 grind [oq,WV,CA,kl,ar,dX,eJ]
@[simp]def afd (e:Tmp) (d:List ResultVar) (a:iz) (b:H) (c:List T->Prop):CA cx J (.tmp e::d) a b c=WV (Env.get J ⟨a,.nil⟩ e) λg=>CA cx J d a b λf=>c (g::f):=HG _ d a b c
@[simp]def ab5 (e:Tmp) (f:ab) (d:List ResultVar) (b:iz) (a:H) (c:List T->Prop):CA cx J (.cell e f::d) b a c=WV (Z (Env.get J ⟨b,.nil⟩ e) λh=>Z (cx.ty f) λi=>a.load i h) λj=>CA cx J d b a λg=>c (j::g):=HG _ d b a c
def Bg(cx:Ctx)(J:Nat)(e:List ResultVar)(d:List T->H->Prop):jp:=
 ⟨λb a=>CA cx J e b.vars a λc=>d c a,λ_ _ _=>False,λb a=>CA cx J e b.vars a λc=>d c a⟩
@[simp]theorem ahQ (d:List ResultVar) (c:List T->H->Prop) (b:Env) (a:H):(Bg cx J d c).n b a=CA cx J d b.vars a λe=>c e a:=rfl
@[simp]theorem ahP (d:List ResultVar) (c:List T->H->Prop) (b:Env) (a:H):(Bg cx J d c).r b a=CA cx J d b.vars a λe=>c e a:=rfl
@[simp]theorem ahO (e:List ResultVar) (d:List T->H->Prop) (c:Nat) (a:Env) (b:H):(Bg cx J e d).x c a b=False:=rfl
def F0{g:Out}{h:List ResultVar}{f:List T->H->Prop}(i:W g (Bg cx J h f)):∃c b a,g=some (c,b,a)/\(c= .normal\/c= .ret)/\CA cx J h b.vars a λj=>f j a:=by
 obtain⟨c,b,a,d,e⟩:=i;cases c with
 |normal=>exact⟨_,b,a,d,.inl rfl,e⟩
 |exit k=>simp_all
 |ret=>exact⟨_,b,a,d,.inr rfl,e⟩
def qf{i:List ResultVar}{a:Env}{f:H}{j:List T}(hl:oq cx J ⟨a.vars,.nil⟩ f i=some j):oq cx J a f i=some j:=by
 unfold oq at*
 induction i generalizing j with
 |nil=>exact hl
 |cons l i r=>
  rw[kl]at hl|-;have⟨d,g,hl⟩:=dX.1 hl;have⟨s,p,hl⟩:=dX.1 hl;simp only[ar]at hl;subst hl;have m:∀k d,Env.get J ⟨a.vars,.nil⟩ k=some d->Env.get J a k=some d:=by
   intro k d o;obtain⟨u,t⟩:=a;rw[DF]at o|-;simp_all[Hj]
  have q:(@ResultVar.rec (λ_=>aa T) (λc=>Env.get J a c) (λe c=>Z (Env.get J a e) λb=>Z (cx.ty c) λh=>f.load h b) l)=some d:=by
   cases l with
   |tmp c=>grind
   |cell e c=>
    have g:(Z (Env.get J ⟨a.vars,.nil⟩ e) λb=>Z (cx.ty c) λh=>f.load h b)=some d:=g;have⟨b,n,g⟩:=dX.1 g;show(Z (Env.get J a e) λb=>Z (cx.ty c) λh=>f.load h b)=some d;rw[m e b n];exact g
  grind
end
def UN{l:Env->H->Out}(e:Nat)(g:Nat->iz->H->Prop){k:jp}
 (p:∀a d b,a<=e->g a d b->W (l ⟨d,.nil⟩ b) (Ai (λc b=>c.tmps= .nil/\a<e/\g (a+1) c.vars b) k)) {j:Nat} (r:e<j) {a:Nat} (i:a<=e) {d:iz} {b:H} (h:g a d b):W (pT l j ⟨d,.nil⟩ b) k:=by
 refine UL (σ:=Nat) (I:=λa c b=>a<=e/\c.tmps= .nil/\g a c.vars b) (m:=λa=>e-a) ?_ j a _ _ D ⟨i,rfl,h⟩;rintro a ⟨d,t⟩ b ⟨i,ht,h⟩;simp only at ht h;subst ht;have⟨n,c,o,q,f⟩:=p a d b i h;refine⟨n,c,o,q,?_⟩;cases n with
 |normal=>exact⟨a+1,by have:=f.2.1;omega,by have:=f.2.1;omega,f.1,f.2.2⟩
 |exit s=>exact f
 |ret=>exact f
@[simp]def aiW:Hp hE=True:=by simp[Hp]
@[simp]def afm (b:H) (c:jv):Hp (b.cons c)=Hp b:=by
 apply propext;constructor
 ·intro a;unfold Hp at*;simp[H.cons]at a;exact a
 ·exact λa=>Xy a c
end
section
mutual
def cn:T->T
 | .ed b c=>(match b with| []=> .iO|e::b=> .ed (cnL (e::b)) false)
 | .agg a=> .agg (cnL a)
 | .tuple a=> .tuple (cnL a)
 |v=>v
def cnL:List T->List T
 | []=>[]
 |x::a=>cn x::cnL a
end
def IP:∀a:List T,cnL a=a.map cn
 | []=>by rw[cnL];rfl
 |x::b=>by rw[cnL,IP b];rfl
def oR(a:List T)(b:Bool):cn (.ed a b)=sl (a.map cn):=by
 cases a with
 |nil=>rw[cn];rfl
 |cons c a=>rw[cn,IP];rfl
def xa(a:List T):cn (.agg a)= .agg (a.map cn):=by rw[cn,IP]
def wy(a:List T):cn (.tuple a)= .tuple (a.map cn):=by rw[cn,IP]
@[simp]def T2:cn .undef= .undef:=by simp[cn]
@[simp]def Ow (a:Bool):cn (.bool a)=(.bool a):=by simp[cn]
@[simp]def IN (a:ak) (b:Int):cn (.int a b)=(.int a b):=by simp[cn]
@[simp]def IM (a:List Nat):cn (.str a)=(.str a):=by simp[cn]
@[simp]def Ot:cn .lr= .lr:=by simp[cn]
@[simp]def aaM (a b c d:Nat):cn (.ptr a b c d)=(.ptr a b c d):=by simp[cn]
@[simp]def Oq (a:List T):cn (.j9 a)=(.j9 a):=by simp[cn]
@[simp]def KV:cn .iO= .iO:=by simp[cn]
@[simp]def aaO (a b e d:Nat) (c:Bool):cn (.arr a b e d c)=(.arr a b e d c):=by simp[cn]
@[simp]def WT (b:aj) (a:List T):cn (.func b a)=(.func b a):=by simp[cn]
@[simp]def Ov:cn .lV= .lV:=by simp[cn]
@[simp]def Ou:cn .ma= .ma:=by simp[cn]
@[simp]def T4 (a:ab) (b:T):cn (.iface a b)=(.iface a b):=by simp[cn]
@[simp]def WS (a:Nat):cn (.iter a)=(.iter a):=by simp[cn]
@[simp]def aaN (a:Nat):cn (.map a)=(.map a):=by simp[cn]
@[simp]def WQ:cn .po= .po:=by simp[cn]
def Hv(a:T):(cn a).scalar=a.scalar:=by
 cases a with
 |ed c d=>rw[oR];cases c<;>rfl
 |agg b=>rw[xa];rfl
 |tuple b=>rw[wy];rfl
 |_=>simp
theorem KW(a:T):(cn a).cells=a.cells.map cn:=by
 cases a with
 |ed c d=>rw[oR];cases c<;>(show [_]=[_];rw[oR])
 |agg b=>rw[xa];rfl
 |tuple b=>rw[wy];show [_]=[_];rw[wy]
 |_=>simp[T.cells]
def WU(a:List T):gH (a.map cn)=(gH a).map cn:=by
 induction a with
 |nil=>rfl
 |cons b a c=>
  grind [gH,KW]
def ll.cn{a:T}(b:ll a):ll (cn a):=by
 induction b with
 |ed d l _ g=>
  rw[oR];cases d with
  |nil=>exact .iO
  |cons k d=>
   exact .ed _ _ (λa f=>by
    grind)
 |agg c _ g=>
  rw[xa];exact .agg _ (λa f=>by
   grind)
 |j9 c b=>rw[Oq];exact .j9 c b
 |bool e=>rw[Ow];exact .bool e
 |int h i=>rw[IN];exact .int h i
 |str j=>rw[IM];exact .str j
 |lr=>rw[Ot];exact .lr
 |iO=>rw[KV];exact .iO
 |lV=>rw[Ov];exact .lV
 |ma=>rw[Ou];exact .ma
def gW.cn{hp:af Obj}{μ:Mu}{b:T}{o:am}(a:gW hp μ b o):gW hp μ (cn b) o:=by
 induction a with
 |ph u c=>rw[oR];exact .iO c 0
 |ed i j u r off s O arr n fz x w hl Q R h l hr m=>
  rw[oR];show gW hp μ (.ed (Go.TI.cn i::j.map Go.TI.cn) false) _;have B:gH (Go.TI.cn i::j.map Go.TI.cn)=(gH (i::j)).map Go.TI.cn:=WU (i::j);have:=gW.ed (hp:=hp) (μ:=μ) (Go.TI.cn i) (j.map Go.TI.cn) false r off s O arr n fz x w (by grind) Y (λb e=>?_) ?_ ?_ ?_
  ·grind
  ·have e:b∈(i::j).map Go.TI.cn:=e;obtain⟨q,p,rfl⟩:=List.mem_map.1 e;rw[KW,aG];grind
  ·rw[B,aG];exact h
  ·intro b e;rw[B]at e;obtain⟨q,p,rfl⟩:=List.mem_map.1 e;exact⟨by rw[Hv];exact(l q p).1,(l q p).2.cn⟩
  grind
 |agg A k h l hr m=>
  rw[xa];refine .agg _ k (by grind) (λb e=>?_) λz b C=>?_
  ·obtain⟨q,p,rfl⟩:=List.mem_map.1 e;rw[Hv];grind
  grind
 |tuple S k h hr m=>
  rw[wy];refine .tuple _ k (by grind) λz b C=>?_;rw[aR]at C
  grind
 |j9 A r off arr n fz x w h l hr m=>rw[Oq];exact .j9 A r off arr n fz x w h l hr
 |undef=>rw[T2];exact .undef
 |bool d=>rw[Ow];exact .bool d
 |int z L=>rw[IN];exact .int z L
 |str N a=>rw[IM];exact .str N a
 |lr=>rw[Ot];exact .lr
 |ptr d t y J f c g v I=>rw[aaM];exact .ptr d t y J f c g v I
 |iO c s=>rw[KV];exact .iO c s
 |arr d t M K u f c F g v hl a=>rw[aaO];exact .arr d t M K u f c F g v hl a
 |func H E k h hr m=>rw[WT];exact .func H E k h hr
 |lV=>rw[Ov];exact .lV
 |ma=>rw[Ou];exact .ma
 |iface n b o a m=>rw[T4];exact .iface n b o a
 |iter d f c g a=>rw[WS];exact .iter d f c g a
 |map d f y g a=>rw[aaN];exact .map d f y g a
 |po=>rw[WQ];exact .po
def iJ.cn{f:af Obj}{h:Mu}{c:List T}{d:List am}(e:iJ f h c d):iJ f h (c.map Go.TI.cn) d:=by
 refine⟨by simpa using e.1,λg j a=>?_⟩;rw[aR]at a;cases b:c[g]? with
 |none=>rw[b]at a;grind
 |some i=>rw[b]at a;simp at a;subst a;exact(e.2 g i b).cn
mutual
def ny:T->Bool
 | .bool _| .int _ _| .str _| .lr| .lV| .ma| .po| .iO=>true
 | .agg a=>qk a
 | .tuple a=>qk a
 |_=>false
def qk:List T->Bool
 | []=>true
 |x::a=>ny x&&qk a
end
def CO{a:List T}(c:qk a=true):∀b∈a,ny b=true:=by
 induction a with
 |nil=>simp
 |cons f a e=>
  intro b d;rw[qk,ax]at c
  grind
def gW.plain{n o:af Obj}{r s:Mu}{a:T}{i:am}(f:gW n r a i)(c:ny a=true):gW o s a i:=by
 induction f with
 |bool k=>exact .bool k
 |int d p=>exact .int d p
 |str q f=>exact .str q f
 |lr=>exact .lr
 |lV=>exact .lV
 |ma=>exact .ma
 |po=>exact .po
 |iO j l=>exact .iO j l
 |agg t e g m hr h=>
  rw[ny]at c;exact .agg _ e g m λd a b=>h d a b (CO c a (ay b))
 |tuple u e g hr h=>
  rw[ny]at c;exact .tuple _ e g λd a b=>h d a b (CO c a (ay b))
 |_=>simp[ny]at c
section
variable {P:ai}{cx:Ctx}
def QM{b:Mu}{a:Nat}:oU (nN 0 b) a↔b.qD a:=by
 constructor
 ·rintro(⟨e,d,c,_⟩|hr)
  ·exact absurd (kN c).1 D
  ·exact hr
 ·exact λhr=> .inr hr
def Px{z:aj}{o k:List T}{w:T}{s:H}(I:mp P cx z (k.map cn) w)(u:iu (lf s 0) o=some k)(hr:ny w=true):rm P cx ⟨z,o,s,w,s⟩:=by
 intro Z d f x b B;have F:iJ d.heap (nN 0 f) k x.toList:=by
  have A:jh (λj V=>∀p,gW d.heap f j p->gW d.heap (nN 0 f) V p) o k:=jh.map (λn m y Q p J=>sL b J Q) u;refine⟨by rw[<-A.length];exact B.1,λR j L=>?_⟩;have⟨n,m,u⟩:=A.get L;exact u _ (B.2 R n m)
 have U:St cx d.heap.size d.heap (nN 0 f) hE:=by
  refine⟨rfl,au _,λh e c=>absurd (kN c).1 D,λh X e W c=>absurd (kN c).1 D,λh e c=>absurd (kN c).1 D,λh e c=>absurd (kN c).1 D,λa hr=>b.sY a hr,λr q v=>?_⟩;have:=b.Bl r q v;refine this.cut ?_;have⟨_,_,_,_,_,_,_,_,_,N,_⟩:=this.m9;exact .j9 _ λj O=>(N j O).2.low 0
 refine(I d.heap.size d (nN 0 f) x hE U F.cn).mono λj E ⟨⟨ap,S,ae,g,al⟩,an⟩=>?_;have C:∀a,a<d.heap.size->¬f.qD a->E.heap[a]? =d.heap[a]? :=λa i l=>(g.ext.o7 a i λK=>l (QM.1 K)).1;have t:Ext d.heap f E.heap f:=by
  refine⟨g.ext.size,λa i l=>⟨C a i λhr=>l (.inr hr),l⟩,λh e c=>⟨e,c,.inl rfl⟩,rfl,λa i hr=>g.ext.kept a i hr⟩
 refine⟨⟨f,S.plain hr,⟨b.wf,aQ b.fit g.ext.size,λh e c=>?_,b.inj,b.low,b.apart,λa hr=>bF (b.sY a hr) g.ext.size,λr q v=>(b.Bl r q v).ext t⟩,⟨t,g.os,g.tape,g.output⟩,Ax.refl _ _⟩,mz.refl b.wf⟩;have⟨n,m,M⟩:=b.box h e c;exact⟨n,m,M.ext t (C e.jz (b.lt c) (b.apart h e c))⟩
def Pw{c:aj}{b:List T}{d:T}{a:H}(h:mp P cx c (b.map cn) d):rm P cx ⟨c,b,a,d,a⟩:=
 λe j k f i g=>h e j k f a i g.cn
structure iy where
 α:Type
 A:α->List T
 pre:α->Prop
 R:α->T
 inj:∀a b,A a=A b->R a=R b
structure mr where
 pre:List T->H->Prop
 post:List T->H->T->H->Prop
structure gG where
 p:aj->aa iy
 h:aj->aa mr
open Classical in
def rl(P:ai)(cx:Ctx)(f:gG)(d:aj)(c:List T):aa T:=match f.p d with
 |none=>none
 |some a=>if e:∃b,a.pre b/\a.A b=c/\mp P cx d c (a.R b)then some (a.R e.choose)else none
open Classical in
def hl(P:ai)(cx:Ctx)(g:gG)(c:aj)(b:List T)(d:H):aa (T×H):=match g.h c with
 |none=>none
 |some e=>if f:∃a:T×H,e.post b d a.1 a.2/\rm P cx ⟨c,b,d,a.1,a.2⟩then some f.choose else none
def yY(h:H)(d:Nat)(v:T):aa T:=Z (freeze h 0 d v) λv=>some (cn v)
def fz(b:H)(a:T):aa T:=Z (jk b 0 a) λa=>some (cn a)
def qC(b:H)(a:T):aa T:=Z (lf b 0 a) λa=>some (cn a)
def Uy(b:H)(a:List T):aa (List T):=iu (qC b) a
mutual
def kE:T->Bool
 | .bool _| .int _ _| .str _| .lr| .ed _ _| .iO| .lV| .ma=>true
 | .agg a=>qd a
 |_=>false
def qd:List T->Bool
 | []=>true
 |x::a=>kE x&&qd a
end
def sq(P:ai)(cx:Ctx)(d:gG):jB:=λc a b=>match Uy b a with
 |none=>hl P cx d c a b
 |some f=>match rl P cx d c f with
  |none=>hl P cx d c a b
  |some e=>if(ny e||qd a)=true then some (e,b)else hl P cx d c a b
def um{f g j:Type}(b:f->aa g)(d:g->j):∀a:List f,iu (λc=>Z (b c) λe=>some (d e)) a=Z (iu b a) λi=>some (i.map d):=by
 intro a;induction a with
 |nil=>rfl
 |cons c a h=>
  rw[kl,kl,h];cases b c with
  |none=>rfl
  |some e=>simp only[eJ];cases iu b a<;>rfl
def K9{c:H}{a b:List T}(d:Uy c a=some b):∃e,iu (lf c 0) a=some e/\b=e.map cn:=by
 unfold Uy qC at d;rw[um]at d
 grind [dX,hl,ar]
mutual
def u6(e:H)(g d:Nat):(b:T)->kE b=true->(∀c,b≠ .agg c)->freeze e g (d+1) b=some b
 | .bool _,_,_=>rfl
 | .int _ _,_,_=>rfl
 | .str _,_,_=>rfl
 | .lr,_,_=>rfl
 | .ed _ _,_,_=>rfl
 | .iO,_,_=>rfl
 | .lV,_,_=>rfl
 | .ma,_,_=>rfl
 | .agg c,_,f=>absurd rfl (f c)
 | .undef,a,_=>by grind [kE]
 | .ptr ..,a,_=>by grind [kE]
 | .j9 _,a,_=>by grind [kE]
 | .arr ..,a,_=>by grind [kE]
 | .func ..,a,_=>by grind [kE]
 | .iface ..,a,_=>by grind [kE]
 | .iter _,a,_=>by grind [kE]
 | .map _,a,_=>by grind [kE]
 | .po,a,_=>by grind [kE]
 | .tuple _,a,_=>by grind [kE]
end
def sM(b:H){a:T}(e:kE a=true)(d:∀c,a≠ .agg c):jk b 0 a=some a:=by
 have:=u6 b 0 11 a e d;cases a<;>first|exact this|rfl
def Ea{a:List T}(c:qd a=true):∀b∈a,kE b=true:=by
 induction a with
 |nil=>simp
 |cons f a e=>
  intro b d;rw[qd,ax]at c
  grind
def Ux{b:H}{a d:List T}{base:Nat}{o:af Obj}{t:Mu}{j:List am}(m:iJ o t a j)(p:qd a=true)(n:Uy b a=some d):d=a.map cn:=by
 obtain⟨v,hl,rfl⟩:=K9 n;have:iu (lf b 0) a=some a:=by
  refine uY λh e=>?_;have f:=Ea p h e;have⟨w,r⟩:=m.mem e;cases h with
  |agg l=>
   show(Z (iu (jk b 0) l) λs=>some (T.agg s))=_;obtain⟨u,rfl,_,q⟩:=r.rI;rw[uY λi g=>sM b (Ea (by rw[kE]at f;omega) i g) (λk c=>by have:=q i g;rw[c]at this;grind [T.scalar])];rfl
  |_=>exact sM b f (λk c=>by simp at c)
 rw[this]at hl;simp only[ar]at hl;rw[hl]
def Jn{e:gG}{c:aj}{b:List T}{d:T}(a:rl P cx e c b=some d):mp P cx c b d:=by
 unfold rl at a;split at a
 ·grind
 ·split at a
  ·grind
  grind
def E8{h:gG}{c:aj}{b:List T}{d e:H}{f:T}(a:hl P cx h c b d=some (f,e)):rm P cx ⟨c,b,d,f,e⟩:=by
 unfold hl at a;split at a
 ·grind
 ·split at a
  ·rename_i g;simp only[ar]at a;have:=g.choose_spec.2;rw[a]at this;omega
  grind
def FL(P:ai)(cx:Ctx)(j:gG):o6 P cx (sq P cx j):=by
 intro m k n q o a base f g d e b;unfold sq at a;split at a
 ·exact E8 a base f g d e b
 ·rename_i l h;split at a
  ·exact E8 a base f g d e b
  ·rename_i r hr;split at a
   ·rename_i c;simp only[ar,aB]at a;obtain⟨rfl,rfl⟩:=a;rw[cr]at c;rcases c with c|c
    ·obtain⟨p,hl,rfl⟩:=K9 h;exact Px (Jn hr) hl c base f g d e b
    ·have i:=Ux (base:=base) b c h;subst i;exact Pw (Jn hr) base f g d e b
   ·exact E8 a base f g d e b
def iy.Ok(P:ai)(cx:Ctx)(c:aj)(b:iy):Prop:=∀a,b.pre a->mp P cx c (b.A a) (b.R a)
def iA{g:gG}{c:aj}{a:iy}(ht:g.p c=some a)(h:a.Ok P cx c)(b:a.α)(e:a.pre b):rl P cx g c (a.A b)=some (a.R b):=by
 have f:∃d,a.pre d/\a.A d=a.A b/\mp P cx c (a.A b) (a.R d):=⟨b,e,rfl,h b e⟩;unfold rl;rw[ht];simp only;rw[dif_pos f,a.inj _ _ f.choose_spec.2.1]
def mr.Ok(P:ai)(cx:Ctx)(f:aj)(c:mr):Prop:=∀a b,c.pre a b->∃e d,c.post a b e d/\rm P cx ⟨f,a,b,e,d⟩
def Hn{tb:gG}{d:aj}{c:mr}(ht:tb.h d=some c)(l:c.Ok P cx d){a:List T}{b:H}(m:c.pre a b):∃i e,hl P cx tb d a b=some (i,e)/\c.post a b i e:=by
 have⟨i,e,j,k⟩:=l a b m;have f:∃g:T×H,c.post a b g.1 g.2/\rm P cx ⟨d,a,b,g.1,g.2⟩:=⟨(i,e),j,k⟩;refine⟨f.choose.1,f.choose.2,?_,f.choose_spec.1⟩;unfold hl;rw[ht];simp only;rw[dif_pos f]
theorem Dx{b:gG}{a:aj}(ht:b.p a=none)(c:List T):rl P cx b a c=none:=by unfold rl;rw[ht]
def cfV(e:aa T)(c:Bool)(d:H)(a:aa (T×H)):aa (T×H):=match e with
 |none=>a
 |some b=>if(ny b||c)=true then some (b,d)else a
@[simp]def aeT (b:Bool) (c:H) (a:aa (T×H)):cfV none b c a=a:=id rfl
@[simp]def T7 (a:T) (b:Bool) (c:H) (d:aa (T×H)):cfV (some a) b c d=if(ny a||b)=true then some (a,c)else d:=id rfl
def cfW(P:ai)(cx:Ctx)(e:gG)(c:aj)(a:List T)(d:H)(b:aa (List T)):aa (T×H):=match b with
 |none=>hl P cx e c a d
 |some b=>cfV (rl P cx e c b) (qd a) d (hl P cx e c a d)
@[simp]def T6 (d:gG) (b:aj) (a:List T) (c:H):cfW P cx d b a c none=hl P cx d b a c:=id rfl
@[simp]def T5 (d:gG) (b:aj) (a e:List T) (c:H):cfW P cx d b a c (some e)=cfV (rl P cx d b e) (qd a) c (hl P cx d b a c):=id rfl
def T8(d:gG)(c:aj)(a:List T)(b:H):sq P cx d c a b=cfW P cx d c a b (Uy b a):=by
 unfold sq cfW cfV;cases Uy b a with
 |none=>rfl
 |some e=>rfl
end
end
section
section
variable {cx:Ctx}{h:H}
@[simp]def ahY (a:ak) (b:Int):fz h (.int a b)=some (.int a b):=id rfl
@[simp]def af0 (a:Bool):fz h (.bool a)=some (.bool a):=id rfl
@[simp]def ahW (a:List Nat):fz h (.str a)=some (.str a):=id rfl
@[simp]def Wm (a:List T) (b:Bool):fz h (.ed a b)=some (sl (a.map cn)):=by
 show some (cn (.ed a b))=_;rw[oR]
@[simp]def aas (a b c d:Nat):fz h (.ptr a b c d)=none:=by
 unfold fz jk;simp
@[simp]def af6 (c:Nat) (a:ak) (b:Int):yY h (c+1) (.int a b)=some (.int a b):=id rfl
@[simp]def aeH (b:Nat) (a:Bool):yY h (b+1) (.bool a)=some (.bool a):=id rfl
@[simp]def af4 (b:Nat) (a:List Nat):yY h (b+1) (.str a)=some (.str a):=id rfl
@[simp]def TD (c:Nat) (a:List T) (b:Bool):yY h (c+1) (.ed a b)=some (sl (a.map cn)):=by
 show some (cn (.ed a b))=_;rw[oR]
@[simp]def Wo (b:Nat) (a:List T):yY h (b+1) (.agg a)=Z (iu (yY h b) a) λc=>some (.agg c):=by
 show(Z (Z (iu (freeze h 0 b) a) λc=>some (T.agg c)) λd=>some (cn d))=_;unfold yY;rw[um];cases iu (freeze h 0 b) a with
 |none=>rfl
 |some c=>simp[xa]
def iF(c e b d:Nat)(l:Bool):h.jM (.arr c e b d l)=Z (h.get c) λa=>iG (decide (a.ep=e)) (if a.it=true then none else if b+d<=a.fR.length then some ((a.fR.drop b).take d)else none):=by
 show(Z (h.get c) λa=>jv.casesOn a λ_ g _ _ f j=>iG (Nat.beq g e) (Bool.casesOn f (Z (kH b j) λm=>takeN d m) none))=_;cases h.get c with
 |none=>rfl
 |some a=>
  obtain⟨o,g,p,n,f,k⟩:=a;simp only[eJ,BC];congr 1;cases f with
  |true=>rfl
  |false=>
   simp only[cD,bh,nd,pj];by_cases i:b<=k.length
   ·rw[aq i,eJ]
    grind
   ·rw[ao i,ao D];rfl
def Al(i a c e d:Nat)(k:Bool):yY h (i+1) (.arr a c e d k)=Z (h.jM (.arr a c e d k)) λf=>Z (iu (yY h i) f) λb=>some (sl b):=by
 have p:freeze h 0 (i+1) (.arr a c e d k)=iG (Nat.ble 0 a) (Z (h.get a) λg=>jv.casesOn g λ_ j _ exact l m=>
  iG (Nat.beq j c) (@Bool.rec (λ_=>aa T) (Z (Z (kH e m) λb=>takeN d b) λf=>Z (iu (freeze h 0 i) f) λn=>
   @List.rec T (λ_=>aa T) (@List.rec T (λ_=>aa T) (@Bool.rec (λ_=>aa T) (some T.iO) (some (T.ed [] false)) exact) (λ_ _ _=>some T.iO) m) (λ_ _ _=>some (T.ed n k)) n) none l)):=rfl
 have q:h.jM (.arr a c e d k)=Z (h.get a) λg=>jv.casesOn g λ_ j _ _ l m=>iG (Nat.beq j c) (@Bool.rec (λ_=>aa (List T)) (Z (kH e m) λb=>takeN d b) none l):=rfl;unfold yY;rw[p,q];rw[show Nat.ble 0 a=true by simp,iR];cases h.get a with
 |none=>rfl
 |some g=>
  obtain⟨r,j,s,o,l,f⟩:=g;simp only[eJ];cases Nat.beq j c with
  |false=>rfl
  |true=>
   simp only[iR];cases l with
   |true=>rfl
   |false=>
    simp only;cases (Z (kH e f) λb=>takeN d b)with
    |none=>rfl
    |some es1=>
     simp only[eJ];rw[um];cases iu (freeze h 0 i) es1 with
     |none=>rfl
     |some Di=>
      simp only[eJ];cases Di with
      |nil=>
       cases f with
       |nil=>cases o<;>simp[oR,sl]
       |cons=>simp[sl]
      |cons g b=>simp[oR]
@[simp]def wY (a b e d:Nat) (c:Bool):fz h (.arr a b e d c)=Z (h.jM (.arr a b e d c)) λf=>Z (iu (yY h 11) f) λg=>some (sl g):=by
 rw[<-Al];unfold fz yY jk;simp only;rw[show Nat.ble 0 a=true by simp]
def Or(a:List T):cn (sl a)=sl (a.map cn):=by
 cases a with
 |nil=>rfl
 |cons c b=>exact oR (c::b) false
def aeC(a:List T):fz h (sl a)=some (sl (a.map cn)):=by cases a<;>first|rfl|exact Wm _ _
def aat(b:Nat)(a:List T):yY h (b+1) (sl a)=some (sl (a.map cn)):=by cases a<;>first|rfl|exact TD b _ _
@[simp]def aib {d:Type} (a:d->T) (c:List d) (e:∀b,cn (a b)=a b):cn (sl (c.map a))=sl (c.map a):=by
 rw[Or,List.map_map];congr 2;funext b;grind
@[simp]def ahX {d:Type} (a:d->T) (c:List d) (e:∀b,cn (a b)=a b):fz h (sl (c.map a))=some (sl (c.map a)):=by
 rw[aeC,List.map_map];congr 3;funext b;grind
@[simp]def af5 {d:Type} (e:Nat) (a:d->T) (c:List d) (f:∀b,cn (a b)=a b):yY h (e+1) (sl (c.map a))=some (sl (c.map a)):=by
 rw[aat,List.map_map];congr 3;funext b;grind
@[simp]def J8 {e:Type} (c:T->aa T) (a:e->T) (d:List e) (f:∀b,c (a b)=some (a b)):iu c (d.map a)=some (d.map a):=uY λb g=>by
 grind
@[simp]def N6 (a:List T):qC h (.agg a)=Z (iu (fz h) a) λb=>some (.agg b):=by
 show(Z (Z (iu (jk h 0) a) λb=>some (T.agg b)) λc=>some (cn c))=_;unfold fz;rw[um];cases iu (jk h 0) a with
 |none=>rfl
 |some b=>simp[xa]
@[simp]def af3 (a:ak) (b:Int):qC h (.int a b)=some (.int a b):=id rfl
@[simp]def aeF (a:Bool):qC h (.bool a)=some (.bool a):=id rfl
@[simp]def af1 (a:List Nat):qC h (.str a)=some (.str a):=id rfl
@[simp]def aeD (a:List T) (b:Bool):qC h (.ed a b)=fz h (.ed a b):=id rfl
@[simp]theorem ahZ (a:List T):qC h (sl a)=fz h (sl a):=by cases a<;>rfl
@[simp]def Wn (a b e d:Nat) (c:Bool):qC h (.arr a b e d c)=fz h (.arr a b e d c):=id rfl
@[simp]def af2 (a b c d:Nat):qC h (.ptr a b c d)=none:=aas (h:=h) a b c d
@[simp]def agx:Uy h []=some []:=id rfl
@[simp]def ae3 (b:T) (a:List T):Uy h (b::a)=Z (qC h b) λd=>Z (Uy h a) λc=>some (d::c):=id rfl
@[simp]def Zj:qd []=true:=by rw[qd]
@[simp]def X7 (b:T) (a:List T):qd (b::a)=(kE b&&qd a):=by rw[qd]
@[simp]def abp (a:ak) (b:Int):kE (.int a b)=true:=by rw[kE]
@[simp]def Zl (a:Bool):kE (.bool a)=true:=by rw[kE]
@[simp]def abo (a:List Nat):kE (.str a)=true:=by rw[kE]
@[simp]def Zk (a:List T) (b:Bool):kE (.ed a b)=true:=by rw[kE]
@[simp]def X8:kE .iO=true:=by rw[kE]
@[simp]def adn (a:List T):kE (sl a)=true:=by cases a<;>simp[sl]
@[simp]def abr (a:List T):kE (.agg a)=qd a:=by rw[kE]
@[simp]def abq (a b e d:Nat) (c:Bool):kE (.arr a b e d c)=false:=by simp[kE]
@[simp]def Yq:qk []=true:=by rw[qk]
@[simp]def VC (b:T) (a:List T):qk (b::a)=(ny b&&qk a):=by rw[qk]
@[simp]def ZC (a:ak) (b:Int):ny (.int a b)=true:=by rw[ny]
@[simp]def Yr (a:Bool):ny (.bool a)=true:=by rw[ny]
@[simp]def VE:ny .iO=true:=by rw[ny]
@[simp]def VD (a:List T):ny (.tuple a)=qk a:=by rw[ny]
@[simp]def NZ (a:List T):oc (sl a)=m7 a:=by cases a<;>simp[sl]
@[simp]def afP {c:Type} (a:c->T) (b:List c) (d:∀e,oc (a e)=true):m7 (b.map a)=true:=Qe a d b
@[simp]theorem aeU (a:List T):(sl a).cells=[sl a]:=by cases a<;>rfl
@[simp]theorem afY (a:List T):(sl a).iN=true:=by cases a<;>rfl
@[simp]def aez (a b e d:Nat) (c:Bool):(T.arr a b e d c).iN=true:=id rfl
@[simp]def aex (a b c d:Nat):(T.ptr a b c d).iN=true:=id rfl
@[simp]def abW (a b e d:Nat) (c:Bool):(T.arr a b e d c).cells=[.arr a b e d c]:=id rfl
@[simp]def abU (a b c d:Nat):(T.ptr a b c d).cells=[.ptr a b c d]:=id rfl
@[simp]def afQ (b:Ty) (a:List T) (d:ab) (c:b.u= .slice d):Gk cx h b (sl a)=some (.val (.int .i64 a.length) h):=by cases a<;>simp[sl,c]
@[simp]theorem afW (c:Ty) (a:List T) (b:Nat):lM h c (sl a) b=Z (a[b]?) λd=>iG (decide (d.cells.length=c.size)) (some (.val (.j9 d.cells) h)):=by cases a<;>simp[sl];rfl
@[simp]theorem Tz (a:List T):h.jM (sl a)=some a:=by cases a<;>rfl
def BS{a b:List T}(c:sl a=sl b):a=b:=by
 cases a<;>cases b<;>simp[sl]at c
 ·rfl
 grind
def jH{f:Type}{a:f->T}(i:∀d e,a d=a e->d=e){b c:List f}(g:sl (b.map a)=sl (c.map a)):b=c:=by
 have:=BS g
 grind [List.map_inj_right]
@[simp]def ez (b:jv) (a:Nat):(h.cons b).get a=if a=h.size then some b else h.get a:=by
 rw[H.get_eq,H.get_eq];show(if a<h.size+1 then(b::h.gU)[h.size+1-1-a]? else none)=_
 grind
def ee{a:Nat}{x:jv}(k:h.get a=some x)(d:jv)(f:Nat):(fg h a d).get f=if f=a then some d else h.get f:=by
 have c:=AU k d;generalize fg h a d=g at*
 obtain⟨b,i,e⟩:=h;have l:a<b:=H.fG k;have c:(iG (Nat.blt a b) (Z (lU e (Nat.sub (Nat.sub b 1) a) d) λj=> @Bool.rec (λ_=>aa H) (some ⟨b,i,j⟩) (some ⟨b,a,j⟩) (Nat.blt a i)))=some g:=c;rw[show Nat.blt a b=true by rw[aJ];exact l,iR,lZ]at c;by_cases hl:Nat.sub (Nat.sub b 1) a<e.length
 ·rw[aq hl,eJ]at c;have p:g.size=b/\g.gU=e.set (b-1-a) d:=by
   cases m:Nat.blt a i<;>rw[m]at c<;>simp only[ar]at c<;>subst c<;>exact⟨rfl,rfl⟩
  obtain⟨n,o⟩:=p;rw[H.get_eq,H.get_eq,n,o];have hl:b-1-a<e.length:=hl
  grind
 simp_all[ao]
@[simp]theorem ig (b:Nat) (f:jv):(fg h b f).size=h.size:=by
 unfold fg;cases a:h.put b f with
 |none=>rfl
 |some g=>
  obtain⟨c,e,i⟩:=h;have a:(iG (Nat.blt b c) (Z (lU i (Nat.sub (Nat.sub c 1) b) f) λd=> @Bool.rec (λ_=>aa H) (some ⟨c,e,d⟩) (some ⟨c,b,d⟩) (Nat.blt b e)))=some g:=a;have⟨_,a⟩:=ew.1 a;have⟨d,_,a⟩:=dX.1 a;show g.size=c;cases j:Nat.blt b e<;>rw[j]at a<;>simp only[ar]at a<;>subst a<;>rfl
@[simp]def agJ (b:Nat) (g:jv):Hp (fg h b g)=Hp h:=by
 unfold fg;cases a:h.put b g with
 |none=>rfl
 |some i=>
  obtain⟨d,f,j⟩:=h;have a:(iG (Nat.blt b d) (Z (lU j (Nat.sub (Nat.sub d 1) b) g) λe=> @Bool.rec (λ_=>aa H) (some ⟨d,f,e⟩) (some ⟨d,b,e⟩) (Nat.blt b f)))=some i:=a;have⟨_,a⟩:=ew.1 a;have⟨e,c,a⟩:=dX.1 a;rw[lZ]at c;split at c
  ·simp only[ar]at c;subst c;show Hp i=_;unfold Hp;cases k:Nat.blt b f<;>rw[k]at a<;>simp only[ar]at a<;>subst a<;>simp
  grind
@[simp]def Vp (a:Nat):fQ h h a=true:=by
 unfold fQ;cases h.get a<;>simp
@[simp]def Vq (c:jv) (a:Nat):fQ h (h.cons c) a=true:=by
 unfold fQ;cases b:h.get a with
 |none=>rfl
 |some d=>
  have:=H.fG b;simp only[ez,ao (show¬a=h.size by omega),b,Nat.beq_refl]
def CG{b:Nat}{e:jv}(d:h.get b=some e)(f:jv){a:Nat}(c:a≠b):fQ h (fg h b f) a=true:=by
 unfold fQ;rw[ee d,ao c];cases h.get a<;>simp
def Qr(h:H)(a:List T):aa T:=Z (jJ h 0 (kt a)) λb=>some (cn b)
@[simp]def Iw (a:T) (b:a.iN=true):Qr h [a]=qC h a:=by
 cases a<;>first|rfl|(simp[T.iN]at b)
def KG(a:List T):(Z (jJ h 0 (.tuple a)) λc=>some (cn c))=Z (iu (qC h) a) λb=>some (.tuple b):=by
 show(Z (Z (iu (lf h 0) a) λb=>some (T.tuple b)) λc=>some (cn c))=_;unfold qC;rw[um];cases iu (lf h 0) a with
 |none=>rfl
 |some b=>simp[wy]
@[simp]def ah1 (b c:T) (a:List T):Qr h (b::c::a)=Z (iu (qC h) (b::c::a)) λd=>some (.tuple d):=KG (b::c::a)
def Nm(h:H)(a:List T)(b:T):Prop:=Hp h/\Qr h a=some b
def XA(a:List T)(b:T):Nm h a b=(Hp h/\Qr h a=some b):=rfl
attribute [simp] XA
end
section
variable {P:ai}{cx:Ctx}{cf:jB}{J:Nat}
def pt:List (Nat×iy)->aj->aa iy
 | [],_=>none
 |(b,d)::c,a=>if a=b then some d else pt c a
def ht:List (Nat×mr)->aj->aa mr
 | [],_=>none
 |(b,d)::c,a=>if a=b then some d else ht c a
@[simp]def ahg (a:aj):pt [] a=none:=id rfl
@[simp]def afK (b:Nat) (d:iy) (c:List (Nat×iy)) (a:aj):pt ((b,d)::c) a=if a=b then some d else pt c a:=id rfl
@[simp]def ahT (a:aj):ht [] a=none:=id rfl
@[simp]def afX (b:Nat) (d:mr) (c:List (Nat×mr)) (a:aj):ht ((b,d)::c) a=if a=b then some d else ht c a:=id rfl
def gu{f:Env->H->Out}(b:Nat)(l:b<9223372036854775808)(d:Nat->iz->H->Prop){e:jp}
 (m:∀c a h,c<b->binop .add (.int .i64 (c:Int)) (.int .i64 1)=some (.int .i64 ((c:Int)+1))->d c a h->W (f ⟨a,.nil⟩ h) (Ai (λg h=>g.tmps= .nil/\d (c+1) g.vars h) e))
 (o:∀a h,d b a h->W (f ⟨a,.nil⟩ h) (Ai (λg h=>False) e))
 {j:Nat} (k:b<j) {a:iz} {h:H} (i:d 0 a h):W (pT f j ⟨a,.nil⟩ h) e:=by
 refine UN b d (λc a h n i=>?_) k (aw b) i
 grind [aS,iZ]
def BB{a:Func}(c:zo ⟨a,J,false,none⟩=true):∃b,a.body=some b:=by
 unfold zo at c
 grind
def ab8(B:P.follows .mixedOrders=true)(jQ:jF P cx){l:aj}{b:Func}{r:DL}(g:F6 P cx l b J r)(x:o6 P cx cf){a:List T}{n:T}(hl:m7 a=true)(C:a.length<=b.ntmps)(i:Nat)
 (L:∀v,nY v 0 a->W (j4 cx cf i J r (b.body.getD .skip) ⟨v,.nil⟩ hE) (Bg cx J b.results.toList λt h=>Nm h t n)):mp P cx l a n:=by
 have U:∃c,cn c=n/\u9 cx cf i b J false a hE=some (c,hE):=by
  have⟨u,K,_,A⟩:=nQ J b.ntmps 0 a C;have⟨V,y,h,d,M,t,hr,E,f⟩:=F0 (L u A);have d:=so _ g.dr _ _ _ d;have⟨w,e⟩:=BB g.ok;rw[e]at d;unfold Qr at f;have⟨c,f,s⟩:=dX.1 f;simp only[ar]at s;refine⟨c,s,?_⟩;unfold u9;rw[e];simp only;rw[K,eJ];have d:kJ cx cf i J w ⟨u,.nil⟩ ⟨0,0,[]⟩=some (V,y,h):=d;rw[d,eJ,mW];have I:=qf hr;rcases M with rfl|rfl<;>(simp only;rw[I,eJ];exact Kf E f)
 obtain⟨c,rfl,e⟩:=U;have z:mp P cx l a c:=AV (mc _ hl) λj p q k o m=>
  qU (F:=⟨b,J,false,none⟩) B jQ g.at_ g.ok cf x i a hE c hE e j p q k o m
 intro j p q k h o m;refine(z j p q k h o m).mono λZ ae ⟨⟨X,N,O,Q,R⟩,S⟩=>?_;exact⟨⟨X,N.cn,O,Q,R⟩,S⟩
