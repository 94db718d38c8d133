/- TiQuick -/
import Derived.Test.YtbappgeamhmmbaaGreatDoorA5
import Derived.KernelRfl
set_option linter.all false
namespace Go.TI
noncomputable section
section
def bn2{a:Type}(f:aa (T×H))(c:T->H->aa a):aa a:= @Option.rec (T×H) (λ_=>aa a) none (λd=> @Prod.rec T H (λ_=>aa a) (λe b=>c e b) d) f
def W7(a:Fun):Code:=Option.casesOn a.fn.body .skip λb=>b
section
variable {G nt:Nat}{K:List Nat}{pre:List T}
end
section
variable {P:List T->Prop}
end
end
mutual
def xv:T->T->Bool
 | .undef,a=>(match a with| .undef=>true|_=>false)
 | .bool y,a=>(match a with| .bool n=>Bool.casesOn y (!n) n|_=>false)
 | .int o q,a=>(match a with| .int p r=>decide (o=p)&&decide (q=r)|_=>false)
 | .str s,a=>(match a with| .str t=>decide (s=t)|_=>false)
 | .jQ,a=>(match a with| .jQ=>true|_=>false)
 | .kj,a=>(match a with| .kj=>true|_=>false)
 | .kq,a=>(match a with| .kq=>true|_=>false)
 | .mw,a=>(match a with| .mw=>true|_=>false)
 | .fK,a=>(match a with| .fK=>true|_=>false)
 | .ptr a h j l,b=>(match b with| .ptr d i k m=>Nat.beq a d&&Nat.beq h i&&Nat.beq j k&&Nat.beq l m|_=>false)
 | .arr a h j l g,b=>(match b with| .arr d i k m c=>Nat.beq a d&&Nat.beq h i&&Nat.beq j k&&Nat.beq l m&&Bool.casesOn g (!c) c|_=>false)
 | .map a,b=>(match b with| .map d=>Nat.beq a d|_=>false)
 | .Y e g,b=>(match b with| .Y f c=>AQ e f&&Bool.casesOn g (!c) c|_=>false)
 | .agg e,b=>(match b with| .agg f=>AQ e f|_=>false)
 | .func g e,b=>(match b with| .func c f=>Nat.beq g c&&AQ e f|_=>false)
 | .iface u w,b=>(match b with| .iface v x=>Nat.beq u v&&xv w x|_=>false)
 |_,_=>false
def AQ:List T->List T->Bool
 | [],a=>(match a with| []=>true|_=>false)
 |x::b,a=>(match a with|y::c=>xv x y&&AQ b c|_=>false)
end
def Jh{b a:Bool}(c:(@Bool.rec (λ_=>Bool) (!a) a b)=true):b=a:=by cases b<;>cases a<;>simp_all
mutual
def IZ:(h b:T)->xv h b=true->h=b
 | .undef,b,a=>by cases b<;>first|rfl|simp[xv]at a
 | .bool z,b,a=>by
  cases b<;>first|(simp[xv]at a;done)|skip
  rename_i n;have a:(@Bool.rec (λ_=>Bool) (!n) n z)=true:=by grind [xv]
  rw[Jh a]
 | .int A C,b,a=>by cases b<;>simp[xv]at a;grind
 | .str E,b,a=>by cases b<;>simp[xv]at a;grind
 | .jQ,b,a=>by cases b<;>first|rfl|simp[xv]at a
 | .kj,b,a=>by cases b<;>first|rfl|simp[xv]at a
 | .kq,b,a=>by cases b<;>first|rfl|simp[xv]at a
 | .mw,b,a=>by cases b<;>first|rfl|simp[xv]at a
 | .fK,b,a=>by cases b<;>first|rfl|simp[xv]at a
 | .ptr b i j k,c,a=>by cases c<;>simp[xv]at a;grind
 | .arr b i j k g,c,a=>by
  cases c<;>first|(simp[xv]at a;done)|skip
  rename_i o p v w f;have a:(Nat.beq b o&&Nat.beq i p&&Nat.beq j v&&Nat.beq k w&& @Bool.rec (λ_=>Bool) (!f) f g)=true:=by grind [xv]
  simp only[az]at a;obtain⟨⟨⟨⟨q,r⟩,s⟩,t⟩,u⟩:=a;rw[aC q,aC r,aC s,aC t,Jh u]
 | .map b,c,a=>by cases c<;>simp[xv]at a;grind
 | .Y d g,c,a=>by
  cases c<;>first|(simp[xv]at a;done)|skip
  rename_i e f;have a:(AQ d e&& @Bool.rec (λ_=>Bool) (!f) f g)=true:=by grind [xv]
  simp only[az]at a;rw[Ba d e a.1,Jh a.2]
 | .agg d,c,a=>by
  cases c<;>first|(simp[xv]at a;done)|skip
  rename_i e;have a:AQ d e=true:=by grind [xv]
  rw[Ba d e a]
 | .func g d,c,a=>by
  cases c<;>first|(simp[xv]at a;done)|skip
  rename_i f e;have a:(Nat.beq g f&&AQ d e)=true:=by grind [xv]
  simp only[az]at a;rw[aC a.1,Ba d e a.2]
 | .iface x l,c,a=>by
  cases c<;>first|(simp[xv]at a;done)|skip
  rename_i y m;have a:(Nat.beq x y&&xv l m)=true:=by grind [xv]
  simp only[az]at a;rw[aC a.1,IZ l m a.2]
 | .jh _,b,a=>by grind [xv]
 | .iter _,b,a=>by grind [xv]
 | .tuple _,b,a=>by grind [xv]
def Ba:(c a:List T)->AQ c a=true->c=a
 | [],a,b=>by cases a<;>first|rfl|grind [AQ]
 |x::d,a,b=>by
  cases a<;>first|(simp[AQ]at b;done)|skip
  rename_i e f;have b:(xv x e&&AQ d f)=true:=by grind [AQ]
  simp only[az]at b;rw[IZ x e b.1,Ba d f b.2]
end
structure Ent where
 f:Nat
 args:List T
 h:H
 r:T
 h':H
def oU(d:ai)(cx:Ctx)(a:Ent):Prop:=
 ∀e b c (g:af am),St cx e b.heap c a.h->fX b.heap c a.args g.toList->yW d (pV cx e b c a.h a.r a.h') ((callFunc a.f g).run d b)
mutual
def my:T->Bool
 | .undef| .bool _| .int _ _| .str _| .jQ| .fK| .kj| .kq| .mw=>true
 | .Y a _=>lI a
 | .agg a=>lI a
 | .tuple a=>lI a
 | .jh a=>lI a
 | .func _ a=>lI a
 | .iface _ b=>my b
 |_=>false
def lI:List T->Bool
 | []=>true
 |x::a=>my x&&lI a
end
mutual
def Ca:(c:T)->my c=true->oR 0 c
 | .undef,_=> .undef
 | .bool _,_=> .bool _
 | .int _ _,_=> .int _ _
 | .str _,_=> .str _
 | .jQ,_=> .jQ
 | .fK,_=> .fK
 | .kj,_=> .kj
 | .kq,_=> .kq
 | .mw,_=> .mw
 | .Y a h,b=> .Y _ _ λc f=>by
  have⟨d,e,g⟩:=List.mem_flatMap.1 f;exact(lr a (by grind [my]) d e).cells c g
 | .agg a,b=> .agg _ (lr a (by grind [my]))
 | .tuple a,b=> .tuple _ (lr a (by grind [my]))
 | .jh a,b=> .jh _ (lr a (by grind [my]))
 | .func _ a,b=> .func _ _ (lr a (by grind [my]))
 | .iface _ c,b=> .iface _ _ (Ca c (by grind [my]))
 | .ptr _ _ _ _,b=>by grind [my]
 | .arr _ _ _ _ _,b=>by grind [my]
 | .iter _,b=>by grind [my]
 | .map _,b=>by grind [my]
def lr:(d:List T)->lI d=true->∀c∈d,oR 0 c
 | [],_=>λc b=>by grind
 |x::g,a=>λc b=>by
  unfold lI at a;rw[az]at a;have e:=Ca x a.1;rcases List.mem_cons.1 b with f|b
  ·rw[f];exact e
  ·exact lr g a.2 c b
end
def eK.move{y:af Obj}{z A:Mu}{b:T}{l:am}(a:eK y z b l)(x:∀n,mR A n->mR z n)(hl:oR 0 b):eK y A b l:=by
 induction a with
 |undef=>exact .undef
 |bool h=>exact .bool h
 |int c M=>exact .int c M
 |str N a=>exact .str N a
 |jQ=>exact .jQ
 |ptr h F n S o g s I R=>cases hl with|ptr _ _ _ _ a=>omega
 |jh r p off arr k fz u t f j hr e=>
  cases hl with|jh _ a=>exact .jh r p off arr k fz (λc=>u (x _ c)) t f j λc b d=>e c b d (a b (ax d))
 |mX m g=>exact .mX m g
 |Y E G m p off q O arr k fz u t w K L f j hr e=>
  cases hl with|Y _ _ a=>exact .Y E G m p off q O arr k fz (λc=>u (x _ c)) t w K L f j λc b d=>e c b d (a b (ax d))
 |fK g q=>exact .fK g q
 |arr h F V U m o g Q s I w v=>cases hl with|arr _ _ _ _ _ a=>omega
 |func H C i f hr e=>cases hl with|func _ _ a=>exact .func H C i f λc b d=>e c b d (a b (ax d))
 |kj=>exact .kj
 |kq=>exact .kq
 |iface k b l a e=>cases hl with|iface _ _ a=>exact .iface k b l (e a)
 |iter h o g s v=>cases hl with|iter _ a=>omega
 |map h o n s v=>cases hl with|map _ a=>omega
 |mw=>exact .mw
 |agg r i f j hr e=>cases hl with|agg _ a=>exact .agg r i f j λc b d=>e c b d (a b (ax d))
 |tuple P i f hr e=>cases hl with|tuple _ a=>exact .tuple P i f λc b d=>e c b d (a b (ax d))
def kH(d:ai)(cx:Ctx)(h:Nat)(g:List T)(i:T):Prop:=
 ∀e a c (f:af am) (b:H),St cx e a.heap c b->fX a.heap c g f.toList->yW d (pV cx e a c b i b) ((callFunc h f).run d a)
def M7{s:ai}{cx:Ctx}{u:Nat}{k:List T}{z:T}{v:H}(hl:∀i∈k,oR 0 i)(N:v.size=0)(F:oU s cx ⟨u,k,⟨0,0,[]⟩,z,v⟩):kH s cx u k z:=by
 intro V h f t W e w;have q:∀a,mR ⟨λ_=>none,mR f⟩ a->mR f a:=by
  rintro a (⟨d,b,c,_⟩|hr)
  ·grind
  omega
 have G:∀a,mR f a->a<h.heap.size:=by
  rintro a (⟨d,b,c,rfl⟩|hr)
  ·exact e.lt c
  ·exact e.pY a hr
 have P:St cx h.heap.size h.heap ⟨λ_=>none,mR f⟩ ⟨0,0,[]⟩:=by
  refine⟨rfl,au _,λd b c=>by grind,λd U b S c=>by simp,λd b c=>by grind,λd b c=>by grind,λa hr=>G a hr,λn m p=>?_⟩;have:=e.yA n m p;refine this.move q ?_;have⟨_,_,_,_,_,_,_,_,_,L,_⟩:=this.lx;exact .jh _ λi l=>(L i l).2.low 0
 have C:fX h.heap ⟨λ_=>none,mR f⟩ k t.toList:=⟨w.1,λr i l=>(w.2 r i l).move q (hl i (ax l))⟩;refine(F h.heap.size h ⟨λ_=>none,mR f⟩ t P C).mono λi A ⟨⟨R,y,O,g,X⟩,Y⟩=>?_;have K:∀a,mR f a->mR R a:=λa j=> .inr (by rw[g.ext.mt];exact j);have o:Ext h.heap f A.heap f:=by
  refine⟨g.ext.size,λa j x=>⟨(g.ext.mV a j (λr=>x (q a r))).1,x⟩,λd b c=>⟨b,c,.inl rfl⟩,rfl,λa j hr=>?_⟩;exact g.ext.kept a j (.inr hr)
 have E:∀d b,f d=some b->A.heap[b.iE]? =h.heap[b.iE]? :=λd b c=>g.ext.kept b.iE (e.lt c) (.inl ⟨d,b,c,rfl⟩);refine⟨⟨f,y.move K (y.low λd b c=>N▸O.ej c),⟨e.wf,aO e.fit g.ext.size,λd b c=>?_,e.inj,e.low,e.apart,λa hr=>bp (e.pY a hr) g.ext.size,λn m p=>(e.yA n m p).ext o⟩,⟨o,g.os,g.tape,g.output⟩,xJ.refl _ _⟩,kJ.refl e.wf⟩;have⟨Q,M,I⟩:=e.box d b c;exact⟨Q,M,I.ext o (E d b c)⟩
def AG:List T->List T->Bool
 | [],a=>(match a with| []=>true|_=>false)
 |x::b,a=>(match a with|y::c=>AG b c&&xv x y|_=>false)
def yj{b:ai}{cx:Ctx}{c:Nat}{a:List T}{d:T}(hl:∀f∈a,oR 0 f)(e:oU b cx ⟨c,a,⟨0,0,[]⟩,d,⟨0,0,[]⟩⟩):kH b cx c a d:=M7 hl rfl e
def OP:∀(b a:List T),AG b a=true->b=a:=by
 intro b;induction b with
 |nil=>intro a c;cases a<;>first|rfl|grind [AG]
 |cons f g d=>
  intro a c;cases a with
  |nil=>grind [AG]
  |cons h e=>
   simp only[AG,az]at c;rw[IZ _ _ c.2,d e c.1]
abbrev us:=List (Nat×List (List T×T))
def Ed(e:List (List T×T))(b:List T):aa T:=
 @List.rec (List T×T) (λ_=>aa T) none (λc _ d=>Prod.casesOn c λa f=> @Bool.rec (λ_=>aa T) d (some f) (AG b a)) e
def AF(h:us)(d:Nat)(b:List T):aa T:=
 @List.rec (Nat×List (List T×T)) (λ_=>aa T) none (λc _ a=>Prod.casesOn c λe f=> @Bool.rec (λ_=>aa T) a (Option.casesOn (Ed f b) a λg=>some g) (Nat.beq d e)) h
inductive wy (P:ai) (cx:Ctx):us->Prop where
 |nil:wy P cx []
 |new {f:Nat} {t:us}:wy P cx t->wy P cx ((f,[])::t)
 |ent {f:Nat} {a:List T} {r:T} {l:List (List T×T)} {t:us}:kH P cx f a r->wy P cx ((f,l)::t)->wy P cx ((f,(a,r)::l)::t)
def wy.mem{a:ai}{cx:Ctx}{f:us}(g:wy a cx f):∀c d,(c,d)∈f->∀b e,(b,e)∈d->kH a cx c b e:=by
 induction g with
 |nil=>simp
 |new _ h=>
  grind
 |ent i _ h=>
  grind
theorem LS{c:List (List T×T)}{b:List T}{d:T}(a:Ed c b=some d):(b,d)∈c:=by
 induction c with
 |nil=>grind [Ed]
 |cons g c h=>
  obtain⟨f,r1⟩:=g;have a: @Bool.rec (λ_=>aa T) (Ed c b) (some r1) (AG b f)=some d:=a;cases e:AG b f with
  |false=>rw[e]at a;grind
  |true=>
   rw[e]at a;have a:some r1=some d:=a;simp only[ar]at a;subst a;rw[OP _ _ e];simp
def LR{e:us}{c:Nat}{b:List T}{d:T}(a:AF e c b=some d):∃f,(c,f)∈e/\(b,d)∈f:=by
 induction e with
 |nil=>grind [AF]
 |cons k e m=>
  obtain⟨g,f⟩:=k;have a: @Bool.rec (λ_=>aa T) (AF e c b) (@Option.rec T (λ_=>aa T) (AF e c b) (λd=>some d) (Ed f b)) (Nat.beq c g)=some d:=a;have o:AF e c b=some d->∃j,(c,j)∈(g,f)::e/\(b,d)∈j:=λn=>by
   grind
  cases h:Nat.beq c g with
  |false=>rw[h]at a;grind
  |true=>
   rw[h]at a;cases i:Ed f b with
   |none=>rw[i]at a;grind
   |some l=>
    rw[i]at a;have a:some l=some d:=a;simp only[ar]at a;subst a;rw[aC h]
    grind [LS,List.mem_cons_self]
def Ow(h:us)(ft:aj->aa oq):aj->aa oq:=λb=>
 Option.casesOn (ft b) none λe=>some λd f a c=>Option.casesOn (AF h b a) (e d f a c) λg=>some (g,c)
def Ov{i:ai}{cx:Ctx}{h:us}{ft:aj->aa oq}(y:wy i cx h)(z:∀a c,ft a=some c->kS i cx a c):∀a c,Ow h ft a=some c->kS i cx a c:=by
 intro a c f;unfold Ow at f;cases k:ft a with
 |none=>rw[k]at f;grind
 |some o=>
  rw[k]at f;simp only[ar]at f;subst f;intro n v q d e g j b l t u m s p;have b: @Option.rec T (λ_=>aa (T×H)) (o n q d e) (λg=>some (g,e)) (AF h a d)=some (g,j):=b;cases hE:AF h a d with
  |none=>rw[hE]at b;exact z a o k n v q d e g j b l t u m s p
  |some r=>
   rw[hE]at b;have b:some (r,e)=some (g,j):=b;simp only[ar,aB]at b;obtain⟨rfl,rfl⟩:=b;have⟨A,w,x⟩:=LR hE;exact y.mem a A w d r x l t u m e s p
def vx(b:us)(ft:aj->aa oq)(a:Nat):iH:=Ho (Ow b ft) a
def Hn{a:ai}{cx:Ctx}{e:us}{ft:aj->aa oq}(f:wy a cx e)(g:∀b c,ft b=some c->kS a cx b c)(d:Nat):mU a cx (vx e ft d):=AH (Ov f g) d
def wy.next{c:ai}{cx:Ctx}{f:us}{ft:aj->aa oq}(n:∀a g,ft a=some g->kS c cx a g){i:Nat}{a:Nat}{d:List (List T×T)}(h:wy c cx ((a,d)::f)){b:List T}{e:T}
 (hl:lI b=true) (m:vx ((a,d)::f) ft i a b ⟨0,0,[]⟩=some (e,⟨0,0,[]⟩)):wy c cx ((a,(b,e)::d)::f):=
 .ent (yj (lr b hl) λj p q k o l=>Hn h n i a b ⟨0,0,[]⟩ e ⟨0,0,[]⟩ m j p q k o l) h
section
def put(a:fH)(b:Nat)(d:T):fH:=(li a b d).getD a
def oF(d:fH)(a:Nat)(c:T):li d a c=some (put d a c):=by
 have:∃b,li d a c=some b:=by
  induction d with
  |nil=>exact⟨_,rfl⟩
  |cons e i b g=>
   obtain⟨h,ht⟩:=g;cases f:Nat.beq e a with
   |true=>exact⟨.cons e c b,by show @Bool.rec (λ_=>aa fH) _ _ (Nat.beq e a)=_;rw[f]⟩
   |false=>simp_all[Nat.beq,li,M]
 obtain⟨b,hr⟩:=this;rw[hr];unfold put;rw[hr];rfl
def lN(b:Nat)(d:T)(c:fH)(a:Nat):dG (.cons b d c) a=if b=a then some d else dG c a:=by
 show @Bool.rec (λ_=>aa T) (dG c a) (some d) (Nat.beq b a)=_;cases e:Nat.beq b a with
 |true=>rw[aq (aC e)]
 |false=>rw[ao (cD e)]
def D4(a:Nat):dG .nil a=none:=rfl
def Oz(g:fH)(b:Nat)(c:T)(i:Nat):dG (put g b c) i=if b=i then some c else dG g i:=by
 have a:=oF g b c;generalize put g b c=f at a;induction g generalizing f with
 |nil=>
  have a:some (fH.cons b c .nil)=some f:=a;simp only[ar]at a;subst a;rw[lN,D4]
 |cons e j d k=>
  have a: @Bool.rec (λ_=>aa fH) (M (li d b c) λd=>some (.cons e j d)) (some (.cons e c d)) (Nat.beq e b)=some f:=a;cases h:Nat.beq e b with
  |true=>
   rw[h]at a;have a:some (fH.cons e c d)=some f:=a;simp only[ar]at a;subst a;have:=aC h;subst this;simp only[lN];split<;>rfl
  |false=>
   rw[h]at a;have a:(M (li d b c) λd=>some (fH.cons e j d))=some f:=a;rw[oF]at a;simp only[dS,ar]at a;subst a;have:=cD h;rw[lN,lN,k _ (oF _ _ _)]
   grind
structure iq where
 n:Env->H->Prop
 x:Nat->Env->H->Prop
 r:Env->H->Prop
def W(f:Out)(c:iq):Prop:=∃d a b,f=some (d,a,b)/\Ex.casesOn d (c.n a b) (λe=>c.x e a b) (c.r a b)
@[simp]def C0 (a:Env) (b:H) (d:iq):W (some (.normal,a,b)) d=d.n a b:=by
 apply propext;constructor
 ·rintro⟨h,f,g,e,c⟩;simp only[ar,aB]at e;obtain⟨rfl,rfl,rfl⟩:=e;exact c
 ·exact λc=>⟨_,a,b,rfl,c⟩
@[simp]def Fx (f:Nat) (a:Env) (b:H) (d:iq):W (some (.exit f,a,b)) d=d.x f a b:=by
 apply propext;constructor
 ·rintro⟨i,g,h,e,c⟩;simp only[ar,aB]at e;obtain⟨rfl,rfl,rfl⟩:=e;exact c
 ·exact λc=>⟨_,a,b,rfl,c⟩
@[simp]def abY (a:Env) (b:H) (d:iq):W (some (.ret,a,b)) d=d.r a b:=by
 apply propext;constructor
 ·rintro⟨h,f,g,e,c⟩;simp only[ar,aB]at e;obtain⟨rfl,rfl,rfl⟩:=e;exact c
 ·exact λc=>⟨_,a,b,rfl,c⟩
def PN(a:iq):¬W none a:=by rintro⟨e,b,c,d,_⟩;grind
def EQ(b:Env->H->Out)(a:iq):iq:=⟨λc d=>W (b c d) a,a.x,a.r⟩
def qS(id:Nat)(a:iq):iq:=⟨a.n,λd b c=>if d=id then a.n b c else a.x d b c,a.r⟩
def xn(b:Env->H->Prop)(a:iq):iq:=⟨b,a.x,a.r⟩
@[simp]theorem afs (b:Env->H->Out) (a:iq) (c:Env) (d:H):(EQ b a).n c d=W (b c d) a:=rfl
@[simp]theorem VJ (e:Env->H->Out) (a:iq) (d:Nat) (b:Env) (c:H):(EQ e a).x d b c=a.x d b c:=rfl
@[simp]theorem afr (d:Env->H->Out) (a:iq) (b:Env) (c:H):(EQ d a).r b c=a.r b c:=rfl
@[simp]theorem aa0 (id:Nat) (a:iq) (b:Env) (c:H):(qS id a).n b c=a.n b c:=rfl
@[simp]theorem yx (id:Nat) (a:iq) (d:Nat) (b:Env) (c:H):(qS id a).x d b c=if d=id then a.n b c else a.x d b c:=rfl
@[simp]theorem aaZ (id:Nat) (a:iq) (b:Env) (c:H):(qS id a).r b c=a.r b c:=rfl
@[simp]theorem afw (a:Env->H->Prop) (d:iq) (b:Env) (c:H):(xn a d).n b c=a b c:=rfl
@[simp]theorem afu (e:Env->H->Prop) (a:iq) (d:Nat) (b:Env) (c:H):(xn e a).x d b c=a.x d b c:=rfl
@[simp]theorem afv (d:Env->H->Prop) (a:iq) (b:Env) (c:H):(xn d a).r b c=a.r b c:=rfl
@[simp]def abX (c e:Env->H->Out) (a:Env) (b:H) (d:iq):W (BB c e a b) d=W (c a b) (EQ e d):=by
 apply propext;unfold BB;cases k:c a b with
 |none=>constructor<;>(rintro⟨f,a,b,g,_⟩;simp[M]at g)
 |some h=>
  obtain⟨f,i,j⟩:=h;simp only[dS,lh];cases f<;>simp
@[simp]def R4 (id:Nat) (g:Env->H->Out) (b:Env) (d:H) (a:iq):W (xF id g b d) a=W (g b d) (qS id a):=by
 apply propext;unfold xF;cases l:g b d with
 |none=>constructor<;>(rintro⟨i,b,d,j,_⟩;simp[M]at j)
 |some k=>
  obtain⟨i,c,e⟩:=k;simp only[dS,lh];cases i with
  |normal=>simp
  |ret=>simp
  |exit f=>
   show W (@Bool.rec (λ_=>Out) (some (.exit f,c,e)) (some (.normal,c,e)) (Nat.beq f id)) a↔_;cases h:Nat.beq f id with
   |true=>
    show W (some (.normal,c,e)) a↔_;rw[C0,Fx,yx,aq (aC h)]
   |false=>
    show W (some (.exit f,c,e)) a↔_;rw[Fx,Fx,yx,ao (cD h)]
def Kj(d:aa T)(a b:Prop):Prop:=match d with
 |some (.bool c)=>if c=true then a else b
 |_=>False
@[simp]theorem Wt (c:Bool) (a b:Prop):Kj (some (.bool c)) a b=if c=true then a else b:=rfl
def PP{σ:Type}{g:Env->H->Out}(I:σ->Env->H->Prop)(m:σ->Nat){h:iq}
 (n:∀c a b,I c a b->W (g a b) (xn (λe f=>∃i,m i<m c/\I i e f) h)):
 ∀d c a b,m c<d->I c a b->W (nI g d a b) h:=by
 intro d;induction d with
 |zero=>omega
 |succ d w=>
  intro c a b u l;have⟨j,r,s,o,p⟩:=n c a b l;show W (M (g a b) λq=>three q λj e f=> @Ex.rec (λ_=>Out) (nI g d e f) (λk=>some (.exit k,e,f)) (some (.ret,e,f)) j) h;rw[o];simp only[dS,lh];cases j with
  |normal=>
   obtain⟨i,v,t⟩:=p
   grind
  |exit k=>simp_all
  |ret=>simp_all
section
variable {P:ai}{cx:Ctx}
def VK(cx:Ctx)(e:Nat)(d:Bool)(g:List ResultVar)(f:T):iq:=
 ⟨
  λb a=>(M (kF cx e b a g) λc=>qR d 0 0 (iz c) a)=some (f,⟨0,0,[]⟩),λ_ _ _=>False,
  λb a=>(M (kF cx e b a g) λc=>qR d 0 0 (iz c) a)=some (f,⟨0,0,[]⟩)⟩
@[simp]theorem afz (d:Nat) (c:Bool) (f:List ResultVar) (e:T) (b:Env) (a:H):(VK cx d c f e).n b a=((M (kF cx d b a f) λg=>qR c 0 0 (iz g) a)=some (e,⟨0,0,[]⟩)):=rfl
@[simp]theorem afy (d:Nat) (c:Bool) (f:List ResultVar) (e:T) (b:Env) (a:H):(VK cx d c f e).r b a=((M (kF cx d b a f) λg=>qR c 0 0 (iz g) a)=some (e,⟨0,0,[]⟩)):=rfl
@[simp]theorem afx (e:Nat) (d:Bool) (g:List ResultVar) (f:T) (c:Nat) (a:Env) (b:H):(VK cx e d g f).x c a b=False:=rfl
end
end
@[simp]theorem abQ {d:Type} (c:T) (a:H) (b:T->H->aa d):bn2 (some (c,a)) b=b c a:=rfl
@[simp]theorem abR {b:Type} (a:T->H->aa b):bn2 none a=none:=rfl
@[simp]theorem ac5 (c:iH) (d a:H) (b:T):fin c d (some (.val b a))=some (b,a):=rfl
@[simp]theorem abz (b:iH) (d:H) (c:aj) (a:List T):fin b d (some (.call c a))=b c a d:=rfl
@[simp]theorem Yn (a:H) (b:T):afM a (some b)=some (b,a):=rfl
@[simp]theorem Yp (b:H) (a:Bool):afO b true (some a)=some (.bool a,b):=by cases a<;>rfl
@[simp]theorem Yo (b:H) (a:Bool):afN b true (some a)=some (.bool (!a),b):=by cases a<;>rfl
@[simp]theorem xP (a:H) (b:T):val a (some b)=some (.val b a):=rfl
@[simp]theorem YZ (a:H):val a none=none:=rfl
@[simp]theorem FG (a:H) (b:T):jl (some (b,a))=some (.val b a):=rfl
@[simp]theorem UF (a b:Bool):So (.bool a) b=some (a==b):=by cases a<;>cases b<;>rfl
@[simp]theorem Sl (a:Bool):So .undef a=some false:=rfl
@[simp]theorem Vc (d:H) (a:Bool) (b c:T):aaa d (.bool a) b c=some (.val (if a=true then b else c) d):=by cases a<;>rfl
@[simp]theorem aaD (b:Bool) (c:ak) (d:Int) (a:T):Q9 b (.int c d) a=true:=rfl
@[simp]theorem aaC (b:Bool) (c:List Nat) (a:T):Q9 b (.str c) a=true:=rfl
@[simp]theorem XY (b:Bool) (c:Bool) (a:T):Q9 b (.bool c) a=true:=rfl
@[simp]theorem aaE (b:Bool) (c:List T) (a:T):Q9 b (.agg c) a=true:=rfl
def Rm(a b:List Nat):Uk a b=decide (a=b):=by rw[xw,bg];simp
def Rn(a b:Int):Qh a b=decide (a=b):=by rw[xx];rfl
def wg(a b:Int):J2 a b=decide (a<b):=xm a b
@[simp]theorem qT (a:ak):C7 a a=true:=by cases a<;>rfl
@[simp]theorem Wd (d a:ak) (b c:Int):oe (.int d) (.int a b) (.int a c)=some (decide (b=c)):=by
 show fQ (C7 a a) (some (Qh b c))=_;rw[qT,Rn];rfl
@[simp]def Wc (a b:List Nat):oe .str (.str a) (.str b)=some (decide (a=b)):=by
 show some (Uk a b)=_;rw[Rm]
@[simp]theorem Ul (a b:Bool):oe .bool (.bool a) (.bool b)=some (a==b):=by cases a<;>cases b<;>rfl
@[simp]def YI (a:ak) (b c:Int):binop .lss (.int a b) (.int a c)=some (.bool (decide (b<c))):=by
 show fQ (C7 a a) (wG (J2 b c))=_;rw[qT,wg,il,qJ]
@[simp]def YJ (a:ak) (b c:Int):binop .leq (.int a b) (.int a c)=some (.bool (decide (b<=c))):=by
 show fQ (C7 a a) (wG (!J2 c b))=_;rw[qT,wg,il,qJ];congr 2;rw[bg];simp
@[simp]def YK (a:ak) (b c:Int):binop .gtr (.int a b) (.int a c)=some (.bool (decide (c<b))):=by
 show fQ (C7 a a) (wG (J2 c b))=_;rw[qT,wg,il,qJ]
@[simp]def YL (a:ak) (b c:Int):binop .geq (.int a b) (.int a c)=some (.bool (decide (c<=b))):=by
 show fQ (C7 a a) (wG (!J2 b c))=_;rw[qT,wg,il,qJ];congr 2;rw[bg];simp
def jD{a:Int}(c: -9223372036854775808<=a)(d:a<9223372036854775808):Jv .i64 a=a:=by
 cases a with
 |ofNat b=>
  show @Bool.rec (λ_=>Int) _ _ (Nat.ble b 9223372036854775807)=_;rw[bR (by grind)]
 |negSucc b=>
  show @Bool.rec (λ_=>Int) _ _ (Nat.ble b 9223372036854775807)=_;rw[bR B]
def FZ{a:Int}(b: -9223372036854775808<=a)(c:a<9223372036854775808):pj .i64 a=some (.int .i64 a):=by
 unfold pj;rw[jD b c,nV]
theorem ij{a b:Int}(c: -9223372036854775808<=a+b)(d:a+b<9223372036854775808):binop .add (.int .i64 a) (.int .i64 b)=some (.int .i64 (a+b)):=FZ c d
def kP{a b:Int}(c: -9223372036854775808<=a-b)(d:a-b<9223372036854775808):binop .sub (.int .i64 a) (.int .i64 b)=some (.int .i64 (a-b)):=FZ c d
def Jj{a b:Nat}(c:a<b)(d:b<9223372036854775808):binop .add (.int .i64 (a:Int)) (.int .i64 1)=some (.int .i64 ((a+1:Nat):Int)):=by
 rw[ij B B];rfl
@[simp]theorem Y0 (a:Bool):unop .not (.bool a)=some (.bool !a):=by cases a<;>rfl
def Cc{b:Type}(a:List b):kv a=a.length:=jz a
@[simp]theorem Xr (b:ak) (a:Nat):mZ (.int b (a:Int))=some a:=rfl
@[simp]theorem acn (a:ak):mZ (.int a 0)=some 0:=rfl
@[simp]theorem Ya (b:H) (a:List T) (c:Bool):dK b (.Y a c)=some (.val (.int .i64 (a.length:Nat)) b):=by
 show val b (M (fU (kv a)) λd=>some (.int .i64 (.ofNat d)))=_;rw[Cc,gX];rfl
@[simp]theorem X9 (a:H):dK a .fK=some (.val (.int .i64 0) a):=rfl
@[simp]theorem aaS (a:H) (b:List Nat):afo a (.str b)=some (.val (.int .i64 (b.length:Nat)) a):=by
 show val a (M (fU (kv b)) λc=>some (.int .i64 (.ofNat c)))=_;rw[Cc,gX];rfl
@[simp]def Yz (a:List Nat):(T.str a).cells=[.str a]:=id rfl
@[simp]def YB (a:ak) (b:Int):(T.int a b).cells=[.int a b]:=id rfl
@[simp]def WE (a:Bool):(T.bool a).cells=[.bool a]:=id rfl
@[simp]def WC (a:List T) (b:Bool):(T.Y a b).cells=[.Y a b]:=id rfl
@[simp]def WB:T.fK.cells=[.fK]:=id rfl
@[simp]def YD (a:List T):(T.agg a).cells=a:=id rfl
@[simp]def Bg (a b:Nat):Nat.beq a b=decide (a=b):=by
 rw[bg];simp
@[simp]def RW (a b:Nat):Nat.ble a b=decide (a<=b):=by
 rw[bg];simp
@[simp]def RV (a b:Nat):Nat.blt a b=decide (a<b):=by
 rw[bg,aF];simp
@[simp]def abi (a:List Nat):(T.str a).fg=true:=id rfl
@[simp]def abk (a:ak) (b:Int):(T.int a b).fg=true:=id rfl
@[simp]def Yk (a:Bool):(T.bool a).fg=true:=id rfl
@[simp]def Yj (a:List T) (b:Bool):(T.Y a b).fg=true:=id rfl
@[simp]def abm (a:List T):(T.agg a).fg=true:=id rfl
@[simp]theorem abA (off:Nat) (b:H) (a:List T):faV off b (.jh a)=M (jB off a) λc=>some (kC.val (.jh c) b):=rfl
@[simp]theorem X6 (c:H) (b:Ty) (a:List T):c.load b (.jh a)=j4 b a:=rfl
@[simp]theorem adb {b:Type} (a:List b):jB 0 a=some a:=rfl
@[simp]theorem ada {c:Type} (b:Nat) (d:c) (a:List c):jB (b+1) (d::a)=jB b a:=rfl
@[simp]theorem acq {b:Type} (a:List b):takeN 0 a=some []:=rfl
@[simp]theorem acp {d:Type} (b:Nat) (c:d) (a:List d):takeN (b+1) (c::a)=M (takeN b a) λe=>some (c::e):=rfl
@[simp]theorem acN (b:H) (c:List Nat) (a:T):isV b (.str c) a=M (mZ a) λa=>M (lF c a) λd=>val b (some (.int .u8 (.ofNat d))):=rfl
@[simp]theorem Ys (a:H) (c:List T) (b:Nat):exV a (.tuple c) b=val a (lF c b):=rfl
end
noncomputable section
open Classical in
@[simp]theorem D3:lI []=true:=by unfold lI;rfl
@[simp]def B9 (a:T) (b:List T):lI (a::b)=(my a&&lI b):=by rw[lI]
@[simp]theorem GA (a:ak) (b:Int):my (.int a b)=true:=by unfold my;rfl
@[simp]theorem X5 (a:Bool):my (.bool a)=true:=by unfold my;rfl
@[simp]theorem Gz (a:List Nat):my (.str a)=true:=by unfold my;rfl
@[simp]theorem X3:my .fK=true:=by unfold my;rfl
@[simp]def X4 (a:List T) (b:Bool):my (.Y a b)=lI a:=by rw[my]
@[simp]def GC (a:List T):my (.agg a)=lI a:=by rw[my]
def LG{d:Type}(c:d->T)(e:∀b,my (c b)=true):∀a:List d,lI (a.map c)=true:=by
 intro a;induction a with
 |nil=>simp
 |cons b a f=>simp[e b,f]
def SL(b:T)(a:List T):Prop:=(b= .fK/\a=[])\/∃c,b= .Y a c
def sl(a:List T):T:=match a with| []=> .fK|x::b=> .Y (x::b) false
def R5(a:List T)(b:Bool):SL (.Y a b) a:= .inr ⟨b,rfl⟩
def SL.jf{b:T}{a:List T}(d:SL b a)(c:H):c.jf b=some a:=by
 rcases d with⟨rfl,rfl⟩|⟨e,rfl⟩<;>rfl
theorem SL.cells{a:T}{b:List T}(c:SL a b):a.cells=[a]:=by
 rcases c with⟨rfl,rfl⟩|⟨d,rfl⟩<;>rfl
theorem SL.fg{a:T}{b:List T}(c:SL a b):a.fg=true:=by
 rcases c with⟨rfl,rfl⟩|⟨d,rfl⟩<;>rfl
@[simp]theorem Yb (b:Int) (a:ak):qR false 0 0 (iz [.int a b]) ⟨0,0,[]⟩=some (.int a b,⟨0,0,[]⟩):=rfl
@[simp]theorem VG (a:Bool):qR false 0 0 (iz [.bool a]) ⟨0,0,[]⟩=some (.bool a,⟨0,0,[]⟩):=rfl
end
noncomputable section
def Hp(a:H):Prop:=a.eZ.length=a.size
def Se{a:H}(c:Hp a)(b:iI):Hp (a.cons b):=by grind [Hp,H.cons]
@[simp]theorem size_cons (a:H) (b:iI):(a.cons b).size=a.size+1:=rfl
def dT(a:H)(b:Nat)(c:iI):H:=(a.put b c).getD a
def F2{b:H}(i:Hp b){a:Nat}(h:a<b.size)(e:iI):b.put a e=some (dT b a e):=by
 have:∃d,b.put a e=some d:=by
  obtain⟨c,f,j⟩:=b;unfold Hp at i;simp only at i h;show∃d,(fQ (Nat.blt a c) (M (kf j (Nat.sub (Nat.sub c 1) a) e) λg=> @Bool.rec (λ_=>aa H) (some ⟨c,f,g⟩) (some ⟨c,a,g⟩) (Nat.blt a f)))=some d;rw[show Nat.blt a c=true by rw[aF];exact h,il,kl,aq (by grind),dS];cases Nat.blt a f<;>exact⟨_,rfl⟩
 obtain⟨d,k⟩:=this;unfold dT;rw[k];rfl
def Ie{b:H}(m:Hp b){a:Nat}(h:a<b.size)(c:iI):Hp (dT b a c)/\(dT b a c).size=b.size/\∀f,(dT b a c).get f=if f=a then some c else b.get f:=by
 have e:=F2 m h c;generalize dT b a c=g at*
 obtain⟨d,j,k⟩:=b;unfold Hp at*
 simp only at m h;have e:(fQ (Nat.blt a d) (M (kf k (Nat.sub (Nat.sub d 1) a) c) λl=> @Bool.rec (λ_=>aa H) (some ⟨d,j,l⟩) (some ⟨d,a,l⟩) (Nat.blt a j)))=some g:=e;rw[show Nat.blt a d=true by rw[aF];exact h,il,kl,aq (by grind),dS]at e;have o:g.size=d/\g.eZ=k.set (d-1-a) c:=by
  cases hl:Nat.blt a j<;>rw[hl]at e<;>simp only[ar]at e<;>subst e<;>exact⟨rfl,rfl⟩
 obtain⟨i,n⟩:=o;refine⟨by rw[i,n];grind,i,λf=>?_⟩;rw[H.get_eq,H.get_eq,i,n]
 grind
def get_put{b:H}(f:Hp b){c:Nat}(e:c<b.size)(d:iI)(a:Nat):(dT b c d).get a=if a=c then some d else b.get a:=(Ie f e d).2.2 a
@[simp]theorem ac7 (off:Nat) (c:H) (a b d e:Nat):faV off c (.ptr a b d e)=some (.val (.ptr a b d (e+off)) c):=by
 show(M (fU (Nat.add e off)) λf=>some (kC.val (.ptr a b d f) c))=_;rw[gX];rfl
def RU(b:H){a:T}(c:a.fg=true):WQ b a=some (.val (.ptr b.size 0 0 0) (b.cons ⟨a.cells.length,0,0,true,false,[a]⟩)):=by
 unfold WQ;rw[c,il,H.ku,Cc];rfl
@[simp]theorem abO (a:H) (b:List T):WQ a (.agg b)=some (.val (.ptr a.size 0 0 0) (a.cons ⟨b.length,0,0,true,false,[.agg b]⟩)):=RU a rfl
@[simp]theorem Oq (a:H) (b:Nat->T) (c:iI):jl (a.new b c)=some (.val (b a.size) (a.cons c)):=by rw[H.ku];rfl
@[simp]theorem aaV (b:iI) (a:Bool):qR false 0 0 (iz [.bool a]) (H.cons ⟨0,0,[]⟩ b)=some (.bool a,⟨0,0,[]⟩):=rfl
@[simp]theorem aaU (c:iI) (a:ak) (b:Int):qR false 0 0 (iz [.int a b]) (H.cons ⟨0,0,[]⟩ c)=some (.int a b,⟨0,0,[]⟩):=rfl
theorem IF{a:H}(b:Hp a)(f c:T):tq 0 0 f c a=some (c,⟨0,0,[]⟩):=by
 obtain⟨d,e,g⟩:=a;unfold Hp at b;simp only at b;unfold tq;simp only;rw[show Nat.sub d 0=d from rfl,lA,aq B,dS,show Nat.ble 0 e=true by simp]
 grind
def GH{a:H}(e:Hp a){b c:T}(d:iZ a 0 b=some c):qR false 0 0 b a=some (c,⟨0,0,[]⟩):=by
 show @Option.rec T (λ_=>aa (T×H)) (mN 0 b a) (λc=>tq 0 0 b c a) (iZ a 0 b)=_;rw[d]
 grind [IF]
inductive Sf:T->Prop where
 |bool (b:Bool):Sf (.bool b)
 |int (k:ak) (n:Int):Sf (.int k n)
 |str (s:List Nat):Sf (.str s)
 |Y (es:List T) (f:Bool):Sf (.Y es f)
 |fK:Sf .fK
theorem Sf.freeze{a:T}(d:Sf a)(c:H)(e b:Nat):freeze c e (b+1) a=some a:=by cases d<;>rfl
def rS{c:T->aa T}{a:List T}(d:∀b∈a,c b=some b):fG c a=some a:=by
 induction a with
 |nil=>rfl
 |cons b h e=>
  rw[jp,d b J,e λf g=>d f (by grind)];rfl
def acd(b:T):Prop:=Sf b\/∃a,b= .agg a/\∀c∈a,Sf c
theorem acd.freeze{e:T}(d:acd e)(b:H)(c a:Nat):freeze b c (a+2) e=some e:=by
 rcases d with d|⟨f,rfl,g⟩
 ·exact d.freeze b c (a+1)
 ·show(M (fG (Go.TI.freeze b c (a+1)) f) λi=>some (T.agg i))=_;rw[rS λj h=>(g j h).freeze b c a];rfl
section
def zO(b:List (Nat×Nat))(c d:Nat):Bool:=b.any λa=>a.1==c&&a.2==d
def kW(a:List (Nat×Nat))(b:Nat):Bool:=a.any λc=>c.1==b
def Ec{a:List (Nat×Nat)}{b c:Nat}(h:zO a b c=true):kW a b=true:=by
 unfold zO at h;unfold kW;rw[List.any_eq_true]at h|-
 grind
def RF(g:List (Nat×Nat))(c:af Oper):Bool:=
 let f:=Jk c.toList []
 let d:=c.toList.zipIdx
 d.all λa=>d.all λb=> !Nat.blt b.2 a.2|| !((rU b.1.op&&gJ a.1.op)||(gJ b.1.op&&(rU a.1.op||gJ a.1.op)))||(f.getD a.2 0).testBit b.2||zO g b.2 a.2
def CL{j:List (Nat×Nat)}{g:af Oper}(k:RF j g=true){b c:Nat}{f d:Oper}(p:g[b]? =some f)(q:g[c]? =some d)(s:b<c)
 (r:(rU f.op=true/\gJ d.op=true)\/(gJ f.op=true/\(rU d.op=true\/gJ d.op=true))):jy g b c=true\/zO j b c=true:=by
 unfold RF at k;have m:=List.all_eq_true.1 k (d,c) (mem_zipIdx q);have a:=List.all_eq_true.1 m (f,b) (mem_zipIdx p);have o:Nat.blt b c=true:=by rw[aF];omega
 simp only[o,Bool.not_true,Bool.false_or,bM,bF]at a;rcases a with(a|a)|a
 ·exfalso;rcases r with⟨l,i⟩|⟨l,i|i⟩<;>simp[l,i]at a
 ·exact .inl a
 grind
def ml(c:List (Nat×Nat))(f b:Nat)(d:List (Nat×H×H)):Prop:=∀a∈d,zO c a.1 f=true->em a.2.1 a.2.2 b=true
def vm(b:List (Nat×Nat))(d:Nat)(h c:H)(f:List (Nat×Nat)):Prop:=∀a∈f,zO b a.1 d=true->em h c a.2=true
@[simp]def VE (b:List (Nat×Nat)) (c a:Nat):ml b c a []=True:=by simp[ml]
@[simp]def Uc (b:List (Nat×Nat)) (c a g:Nat) (h f:H) (d:List (Nat×H×H)):ml b c a ((g,h,f)::d)=((zO b g c=true->em h f a=true)/\ml b c a d):=by simp[ml]
@[simp]def Yt (a:List (Nat×Nat)) (c:Nat) (h b:H):vm a c h b []=True:=by simp[vm]
@[simp]def Wf (a:List (Nat×Nat)) (c f d:Nat) (h b:H) (g:List (Nat×Nat)):vm a c h b ((f,d)::g)=((zO a f c=true->em h b d=true)/\vm a c h b g):=by simp[vm]
open Classical in
def wF(cx:Ctx)(cf:iH)(G:Nat)(g:af Oper)(b:List (Nat×Nat)):List Oper->Nat->List (Nat×Nat)->List (Nat×H×H)->Env->H->aa (Env×H)
 | [],_,_,_,e,h=>some (e,h)
 |o::k,a,f,c,e,h=>M (kU cx cf G g e h o) λm=>two m λj d=>
  M (ka g G e o.guard) λr=>
   if r=true then
    if gJ o.op=true then
     if vm b a h d f/\(∀p l q i,o.op= .store p l q->M (fq cx G e l) dM=some i->ml b a i c)then
      wF cx cf G g b k (a+1) f (if kW b a=true then(a,h,d)::c else c) j d else none
    else match fP cx G e h o.op with
     |none=>wF cx cf G g b k (a+1) f c j d
     |some i=>if ml b a i c then wF cx cf G g b k (a+1) (if kW b a=true then(a,i)::f else f) c j d else none
   else wF cx cf G g b k (a+1) f c j d
section
variable {cx:Ctx}{cf:iH}{n G:Nat}
def FU{o:List (Nat×Nat)}{c:af Oper}(N:RF o c=true):∀(l:List Oper) (b:Nat) (u:List (Nat×Nat)) (r:List (Nat×H×H)) (g:Seen) (e:Env) (h:H) (q:Env×H),(∀m,l[m]? =c[b+m]?)->
 (∀a∈g.lU,a.1<b/\(∃d,c[a.1]? =some d/\rU d.op=true)/\(kW o a.1=true->a∈u))->
 (∀a∈g.kG,a.1<b/\(∃d,c[a.1]? =some d/\gJ d.op=true)/\(kW o a.1=true->a∈r))->
 wF cx cf G c o l b u r e h=some q->jL cx cf G c l b g e h=some q:=by
 intro l;induction l with
 |nil=>intro b u r g e h q _ _ _ f;exact f
 |cons d l Q=>
  intro b u r g e h q hl C A f;have O:c[b]? =some d:=by have:=hl 0;grind
  have P:∀m,l[m]? =c[b+1+m]? :=λm=>by
   have:=hl (m+1);simp only[da]at this;rw[this];grind
  show(M (kU cx cf G c e h d) λa=>two a λp i=>
   M (ka c G e d.guard) λal=> @Bool.rec (λ_=>aa (Env×H)) (jL cx cf G c l (b+1) g p i)
    (@Bool.rec (λ_=>aa (Env×H))
      (@Option.rec Nat (λ_=>aa (Env×H)) (jL cx cf G c l (b+1) g p i)
        (λj=>fQ (nD c b j g.kG) (jL cx cf G c l (b+1) ⟨(b,j)::g.lU,g.kG⟩ p i)) (fP cx G e h d.op))
      (fQ (wQ c b h i g.lU) (fQ (qf cx G c b e g.kG d.op) (jL cx cf G c l (b+1) ⟨g.lU,(b,h,i)::g.kG⟩ p i))) (gJ d.op)) al)=some q
  unfold wF at f;obtain⟨⟨p,i⟩,X,f⟩:=dB.1 f;simp only[km]at f;obtain⟨w,Y,f⟩:=dB.1 f;rw[X,dS,km,Y,dS];have W:∀a∈g.lU,a.1<b+1/\(∃d,c[a.1]? =some d/\rU d.op=true)/\(kW o a.1=true->a∈u):=λa k=>⟨by have:=(C a k).1;omega,(C a k).2⟩;have T:∀a∈g.kG,a.1<b+1/\(∃d,c[a.1]? =some d/\gJ d.op=true)/\(kW o a.1=true->a∈r):=λa k=>⟨by have:=(A a k).1;omega,(A a k).2⟩;have lk:∀j,(rU d.op=true\/gJ d.op=true)->ml o b j r->nD c b j g.kG=true:=by
   intro j U s;unfold nD;rw[yS,cw];intro a k;obtain⟨F,⟨ae,I,K⟩,L⟩:=A a k;show @Bool.rec (λ_=>Bool) (jy c a.1 b) true (em a.2.1 a.2.2 j)=true;rcases CL N I O F (.inr ⟨K,U⟩)with E|t
   ·rw[E];cases em a.2.1 a.2.2 j<;>rfl
   ·rw[s a (L (Ec t)) t]
  cases w with
  |false=>grind
  |true=>
   simp only[bj]at f;cases z:gJ d.op with
   |true=>
    rw[z]at f;simp only[bj]at f;split at f
    ·rename_i s;have R:wQ c b h i g.lU=true:=by
      unfold wQ;rw[yS,cw];intro a k;obtain⟨F,⟨ae,I,K⟩,L⟩:=C a k;show @Bool.rec (λ_=>Bool) (jy c a.1 b) true (em h i a.2)=true;rcases CL N I O F (.inl ⟨K,z⟩)with E|t
      ·rw[E];cases em h i a.2<;>rfl
      ·rw[s.1 a (L (Ec t)) t]
     have S:qf cx G c b e g.kG d.op=true:=by
      unfold qf;split
      ·rename_i m x v ap;cases an:M (fq cx G e x) dM with
       |none=>rfl
       |some j=>grind
      ·rfl
     simp only[R,S,il];refine Q (b+1) _ _ _ p i q P W (λa k=>?_) f
     grind
    grind
   |false=>
    rw[z]at f;simp only[cd,bo]at f;simp only;cases y:fP cx G e h d.op with
    |none=>rw[y]at f;grind
    |some j=>
     rw[y]at f;simp only at f;split at f
     ·rename_i s;have V:=GD y;simp only[lk j (.inl V) s,il];refine Q (b+1) _ _ _ p i q P (λa k=>?_) T f
      grind
     grind
abbrev DL:=List (Nat×List (Nat×Nat))
def MY(cx:Ctx)(cf:iH)(G:Nat)(dl:DL)(id:Nat)(a:af Oper)(e:Env)(h:H):Out:=
 match dl.lookup id with
 |none=>M (kh cx cf G a a.toList ⟨e.vars,.nil⟩ h) λd=>two d λb c=>some (.normal,⟨b.vars,.nil⟩,c)
 |some f=>M (wF cx cf G a f a.toList 0 [] [] ⟨e.vars,.nil⟩ h) λd=>two d λb c=>some (.normal,⟨b.vars,.nil⟩,c)
def jk(cx:Ctx)(cf:iH)(b G:Nat)(dl:DL):Code->Env->H->Out
 | .skip=>λe h=>some (.normal,e,h)
 | .region id f _=>MY cx cf G dl id f
 | .seq c a=>BB (jk cx cf b G dl c) (jk cx cf b G dl a)
 | .cond d c a=>Hh cx G d (jk cx cf b G dl c) (jk cx cf b G dl a)
 | .block id a=>xF id (jk cx cf b G dl a)
 | .loop a=>nI (jk cx cf b G dl a) b
 | .exit id=>λe h=>some (.exit id,e,h)
 | .ret=>λe h=>some (.ret,e,h)
 |_=>λ_ _=>none
def mv(dl:DL):Code->Bool
 | .region id d c=>(match dl.lookup id with|none=> !c||JG d|some f=>c&&RF f d)
 | .seq a b=>mv dl a&&mv dl b
 | .cond _ a b=>mv dl a&&mv dl b
 | .block _ a=>mv dl a
 | .loop a=>mv dl a
 |_=>true
def pJ{dl:DL}:∀(o:Code),mv dl o=true->∀e h b,jk cx cf n G dl o e h=some b->jP cx cf n G o e h=some b:=by
 intro o;induction o with
 |region id j x=>
  intro c e h b a;obtain⟨s,F⟩:=e;replace a:MY cx cf G dl id j ⟨s,F⟩ h=some b:=a;unfold MY at a;simp only[mv]at c;cases hl:dl.lookup id with
  |none=>
   rw[hl]at a c;simp only at a c;cases x with
   |false=>exact a
   |true=>
    simp only[Bool.not_true,Bool.false_or]at c;show(M (jL cx cf G j j.toList 0 ⟨[],[]⟩ ⟨s,.nil⟩ h) λb=>two b λf g=>some (Ex.normal,(⟨f.vars,.nil⟩:Env),g))=some b;rw[Ew c j.toList 0 ⟨[],[]⟩ ⟨s,.nil⟩ h (λu=>by simp) (λl q=>by grind) (λl q=>by grind)];exact a
  |some K=>
   rw[hl]at a c;simp only[az]at a c;obtain⟨rfl,c⟩:=c;obtain⟨l,q,a⟩:=dB.1 a;show(M (jL cx cf G j j.toList 0 ⟨[],[]⟩ ⟨s,.nil⟩ h) λb=>two b λf g=>some (Ex.normal,(⟨f.vars,.nil⟩:Env),g))=some b;rw[FU c j.toList 0 [] [] ⟨[],[]⟩ ⟨s,.nil⟩ h l (λu=>by simp) (λl q=>by grind) (λl q=>by grind) q,dS];exact a
 |seq d m v C=>
  intro c e h b a;simp only[mv,az]at c;have a:BB (jk cx cf n G dl d) (jk cx cf n G dl m) e h=some b:=a;show BB (jP cx cf n G d) (jP cx cf n G m) e h=some b;unfold BB at*
  obtain⟨⟨k,y,z⟩,p,a⟩:=dB.1 a;rw[v c.1 e h _ p,dS];simp only[lh]at*
  cases k with
  |normal=>grind
  |exit r=>exact a
  |ret=>exact a
 |cond w d m v C=>
  intro c e h b a;simp only[mv,az]at c;have a:Hh cx G w (jk cx cf n G dl d) (jk cx cf n G dl m) e h=some b:=a;show Hh cx G w (jP cx cf n G d) (jP cx cf n G m) e h=some b;unfold Hh at*
  obtain⟨I,A,a⟩:=dB.1 a;rw[A,dS];cases I<;>first|exact a|skip
  rename_i u;cases u with
  |true=>grind
  |false=>grind
 |block id d t=>
  intro c e h b a;simp only[mv]at c;have a:xF id (jk cx cf n G dl d) e h=some b:=a;show xF id (jP cx cf n G d) e h=some b;unfold xF at*
  obtain⟨l,p,a⟩:=dB.1 a;rw[t c e h _ p,dS];exact a
 |loop d t=>
  intro c e h b a;simp only[mv]at c;have E:∀i e h b,nI (jk cx cf n G dl d) i e h=some b->nI (jP cx cf n G d) i e h=some b:=by
   intro i;induction i with
   |zero=>simp[nI]
   |succ i L=>
    intro e h b a;have a:(M (jk cx cf n G dl d e h) λb=>three b λk f g=> @Ex.rec (λ_=>Out) (nI (jk cx cf n G dl d) i f g) (λr=>some (.exit r,f,g)) (some (.ret,f,g)) k)=some b:=a;show(M (jP cx cf n G d e h) λb=>three b λk f g=> @Ex.rec (λ_=>Out) (nI (jP cx cf n G d) i f g) (λr=>some (.exit r,f,g)) (some (.ret,f,g)) k)=some b;obtain⟨⟨k,y,z⟩,p,a⟩:=dB.1 a;rw[t c e h _ p,dS];simp only[lh]at*
    cases k with
    |normal=>grind
    |exit r=>exact a
    |ret=>exact a
  exact E n e h b a
 |_=>intro _ e h b a;first|exact a|(simp[jk]at a)
def WR(cx:Ctx)(cf:iH)(G:Nat)(f:af Oper)(d:List Oper)(i g:fH)(h:H)(c:fH->H->Prop):Prop:=
 ∃a b,kh cx cf G f d ⟨i,g⟩ h=some (a,b)/\c a.vars b
def WX(c:aa (T×H))(b:T->H->Prop):Prop:=∃a h,c=some (a,h)/\b a h
@[simp]def yV (b:T) (h:H) (d:T->H->Prop):WX (some (b,h)) d=d b h:=by
 apply propext;constructor
 ·rintro⟨g,f,c,a⟩;simp only[ar,aB]at c;obtain⟨rfl,rfl⟩:=c;exact a
 ·exact λa=>⟨b,h,rfl,a⟩
def WD(G:Nat)(g:aa Tmp)(f:T)(d c:fH)(a:fH->fH->Prop):Prop:=match g with
 |none=>a d c
 |some b=>if jX G b=true then a (put d b f) c else a d (.cons b f c)
def Ce(a b:Nat):(jX a b=true)=((a>>>b)&&&1=1):=by
 apply propext;show Nat.beq ((a>>>b)&&&1) 1=true↔_;exact⟨aC,λh=>by rw[h];rfl⟩
def FA(a:Tmp)(d:T)(f c:fH)(b:fH->fH->Prop):WD G (some a) d f c b=if(G>>>a)&&&1=1 then b (put f a d) c else b f (.cons a d c):=by
 simp[WD,Ce]
def PT(i:af Oper)(a b:fH)(h:H)(c:fH->H->Prop):WR cx cf G i [] a b h c=c a h:=by
 apply propext;constructor
 ·rintro⟨e,g,d,f⟩;have d:some ((⟨a,b⟩:Env),h)=some (e,g):=d
  grind
 ·exact λf=>⟨⟨a,b⟩,h,rfl,f⟩
def Fy(l:af Oper)(k:Oper)(j:List Oper)(b a:fH)(h:H)(q:fH->H->Prop):
 WR cx cf G l (k::j) b a h q=WX (xR cx cf G l ⟨b,a⟩ h k) λc d=>WD G k.dst c b a λb a=>WR cx cf G l j b a d q:=by
 have u:∀c d,(∃f,Env.dst G ⟨b,a⟩ k.dst c=some f/\WR cx cf G l j f.vars f.tmps d q)↔WD G k.dst c b a λb a=>WR cx cf G l j b a d q:=by
  intro c d;cases x:k.dst with
  |none=>
   constructor
   ·rintro⟨f,g,p⟩;have g:some (⟨b,a⟩:Env)=some f:=g;simp only[ar]at g;subst g;exact p
   ·exact λp=>⟨_,rfl,p⟩
  |some m=>
   have hE:Env.dst G ⟨b,a⟩ (some m) c=some (if jX G m=true then⟨put b m c,a⟩else⟨b,.cons m c a⟩):=by
    show @Bool.rec (λ_=>aa Env) (some ⟨b,.cons m c a⟩) (M (li b m c) λj=>some ⟨j,a⟩) (jX G m)=_;rw[oF];cases jX G m<;>rfl
   rw[hE];unfold WD;simp only[ar,exists_eq_left'];split<;>rfl
 apply propext;have v:kh cx cf G l (k::j) ⟨b,a⟩ h=M (kU cx cf G l ⟨b,a⟩ h k) λw=>two w λo d=>kh cx cf G l j o d:=rfl;unfold WR;rw[v,qg];constructor
 ·rintro⟨o,d,i,s⟩;have⟨⟨c,r⟩,t,i⟩:=dB.1 i;simp only[km]at i;have⟨f,g,i⟩:=dB.1 i;exact⟨c,r,t,(u c r).1 ⟨f,g,o,d,i,s⟩⟩
 ·rintro⟨c,r,t,p⟩;have⟨f,g,o,d,i,s⟩:=(u c r).2 p;refine⟨o,d,?_,s⟩;rw[t,dS,km,g,dS];exact i
def ab3(f:af Oper)(g:aa Tmp)(i:Op)(m:ab)(l:String)(j:af Edge)(d:List Oper)(b a:fH)(h:H)(c:fH->H->Prop):
 WR cx cf G f (⟨g,i,m,l,j,none⟩::d) b a h c=WX (fin cf h (iT i cx G ⟨b,a⟩ h)) λo k=>WD G g o b a λb a=>WR cx cf G f d b a k c:=Fy f _ d b a h c
def WG(c:aa Bool)(a b:Prop):Prop:=match c with|some true=>a|some false=>b|none=>False
def KD(a b:Prop):WG (some true) a b=a:=rfl
def HD(b a:Prop):WG (some false) b a=a:=rfl
def PU(c:af Oper)(i:aa Tmp)(k:Op)(q:ab)(p:String)(o:af Edge)(f:Nat)(d:Bool)(j:List Oper)(b a:fH)(h:H)(g:fH->H->Prop):
 WR cx cf G c (⟨i,k,q,p,o,some (f,d)⟩::j) b a h g=WG (ka c G ⟨b,a⟩ (some (f,d)))
  (WX (fin cf h (iT k cx G ⟨b,a⟩ h)) λm l=>WD G i m b a λb a=>WR cx cf G c j b a l g)
  (WD G i .undef b a λb a=>WR cx cf G c j b a h g):=by
 rw[Fy];show WX (M (ka c G ⟨b,a⟩ (some (f,d))) λs=> @Bool.rec (λ_=>aa (T×H)) (some (.undef,h)) (fin cf h (iT k cx G ⟨b,a⟩ h)) s) _=_;cases ka c G ⟨b,a⟩ (some (f,d))with
 |none=>apply propext;constructor<;>(first|(rintro⟨m,l,t,_⟩;simp_all)|exact False.elim)
 |some r=>cases r<;>simp[KD,HD]
def Jx(a:aa T)(b:Bool):aa Bool:=M a λa=>match a with| .bool c=>some (c==b)|_=>some false
@[simp]theorem Bn (b a:Bool):Jx (some (.bool b)) a=some (b==a):=rfl
@[simp]theorem Sk (a:Bool):Jx (some .undef) a=some false:=rfl
@[simp]def Bo (d:List Oper) (e:Env) (c:Nat) (f:Bool):ka d.toArray G e (some (c,f))=Jx (M (M (d[c]?) λb=>b.dst) λa=>e.get G a) f:=by
 show(M (M (M (lF d.toArray.toList c) λb=>b.dst) λa=>e.get G a) λg=>_)=_;rw[ky];unfold Jx;simp only;cases (M (M (d[c]?) λb=>b.dst) λa=>e.get G a)with
 |none=>rfl
 |some g=>cases g<;>first|rfl|(rename_i i;cases i<;>cases f<;>rfl)
@[simp]theorem A8 (c b:fH) (a:Nat):Env.get G ⟨c,b⟩ a=if(G>>>a)&&&1=1 then dG c a else dG b a:=by
 show @Bool.rec (λ_=>aa T) (dG b a) (dG c a) (jX G a)=_;simp only[<-Ce];cases jX G a<;>rfl
def Jp(cx:Ctx)(cf:iH)(G:Nat)(k:af Oper)(d:List (Nat×Nat))(i:List Oper)(g:Nat)(j:List (Nat×Nat))(f:List (Nat×H×H))(m l:fH)(h:H)(c:fH->H->Prop):Prop:=
 ∃a b,wF cx cf G k d i g j f ⟨m,l⟩ h=some (a,b)/\c a.vars b
def KC(m:af Oper)(g:List (Nat×Nat))(k:Nat)(l:List (Nat×Nat))(i:List (Nat×H×H))(a b:fH)(h:H)(c:fH->H->Prop):Jp cx cf G m g [] k l i a b h c=c a h:=by
 apply propext;constructor
 ·rintro⟨e,j,d,f⟩;have d:some ((⟨a,b⟩:Env),h)=some (e,j):=d
  grind
 ·exact λf=>⟨⟨a,b⟩,h,rfl,f⟩
def DK(cx:Ctx)(G:Nat)(d:List (Nat×Nat))(a:Nat)(f:List (Nat×Nat))(b:List (Nat×H×H))(i:Op)(e:Env)(h j:H)(g:List (Nat×Nat)->List (Nat×H×H)->Prop):Prop:=
 if gJ i=true then(vm d a h j f/\(∀l k m c,i= .store l k m->M (fq cx G e k) dM=some c->ml d a c b))/\g f (if kW d a=true then(a,h,j)::b else b)
 else match fP cx G e h i with
  |none=>g f b
  |some c=>ml d a c b/\g (if kW d a=true then(a,c)::f else f) b
def HC(u:af Oper)(y:List (Nat×Nat))(i:Oper)(x:List Oper)(z:Nat)(q:List (Nat×Nat))(o:List (Nat×H×H))(b a:fH)(h:H)(A:fH->H->Prop):
 Jp cx cf G u y (i::x) z q o b a h A=WG (ka u G ⟨b,a⟩ i.guard)
  (WX (fin cf h (iT i.op cx G ⟨b,a⟩ h)) λj c=>DK cx G y z q o i.op ⟨b,a⟩ h c λq o=>WD G i.dst j b a λb a=>Jp cx cf G u y x (z+1) q o b a c A)
  (WD G i.dst .undef b a λb a=>Jp cx cf G u y x (z+1) q o b a h A):=by
 have t:∀j c (q:List (Nat×Nat)) (o:List (Nat×H×H)),(∃g,Env.dst G ⟨b,a⟩ i.dst j=some g/\Jp cx cf G u y x (z+1) q o g.vars g.tmps c A)↔WD G i.dst j b a λb a=>Jp cx cf G u y x (z+1) q o b a c A:=by
  intro j c q o;cases O:i.dst with
  |none=>
   constructor
   ·rintro⟨g,f,r⟩;have f:some (⟨b,a⟩:Env)=some g:=f;simp only[ar]at f;subst f;exact r
   ·exact λr=>⟨_,rfl,r⟩
  |some v=>
   have hE:Env.dst G ⟨b,a⟩ (some v) j=some (if jX G v=true then⟨put b v j,a⟩else⟨b,.cons v j a⟩):=by
    show @Bool.rec (λ_=>aa Env) (some ⟨b,.cons v j a⟩) (M (li b v j) λx=>some ⟨x,a⟩) (jX G v)=_;rw[oF];cases jX G v<;>rfl
   rw[hE];unfold WD;simp only[ar,exists_eq_left'];split<;>rfl
 apply propext;constructor
 ·rintro⟨l,c,p,m⟩;unfold wF at p;rw[qg]at p;obtain⟨⟨j,F⟩,s,I⟩:=dB.1 p;simp only[km]at I;obtain⟨g,f,K⟩:=dB.1 I;obtain⟨E,r,k⟩:=dB.1 K;clear p I K;unfold xR at s;rw[r,dS]at s;rw[r];cases E with
  |false=>
   replace s:some (T.undef,h)=some (j,F):=s;simp only[ar,aB]at s;obtain⟨rfl,rfl⟩:=s;simp only[cd,bo]at k;exact(t _ _ q o).1 ⟨g,f,l,c,k,m⟩
  |true=>
   simp only[bj]at k;refine⟨j,F,s,?_⟩;unfold DK;split
   ·rename_i hE;rw[aq hE]at k;split at k
    ·rename_i w;exact⟨w,(t _ _ _ _).1 ⟨g,f,l,c,k,m⟩⟩
    grind
   ·rename_i hE;rw[ao hE]at k;cases C:fP cx G ⟨b,a⟩ h i.op with
    |none=>rw[C]at k;exact(t _ _ _ _).1 ⟨g,f,l,c,k,m⟩
    |some N=>
     rw[C]at k;simp only at k;split at k
     ·rename_i w;exact⟨w,(t _ _ _ _).1 ⟨g,f,l,c,k,m⟩⟩
     grind
 ·intro d;unfold Jp wF;rw[qg];cases r:ka u G ⟨b,a⟩ i.guard with
  |none=>rw[r]at d;exact d.elim
  |some E=>
   rw[r]at d;have L:xR cx cf G u ⟨b,a⟩ h i= @Bool.rec (λ_=>aa (T×H)) (some (.undef,h)) (fin cf h (iT i.op cx G ⟨b,a⟩ h)) E:=by
    unfold xR;rw[r,dS]
   cases E with
   |false=>
    obtain⟨g,f,l,c,p,m⟩:=(t _ _ q o).2 d;refine⟨l,c,?_,m⟩;rw[L];simp_all
   |true=>
    obtain⟨j,F,s,d⟩:=d;rw[L];simp only[s,dS,km,bj];unfold DK at d;split at d
    ·rename_i hE;obtain⟨w,d⟩:=d;obtain⟨g,f,l,c,p,m⟩:=(t _ _ _ _).2 d;refine⟨l,c,?_,m⟩;rw[f,dS,aq hE,aq w];exact p
    ·rename_i hE;cases C:fP cx G ⟨b,a⟩ h i.op with
     |none=>
      rw[C]at d;obtain⟨g,f,l,c,p,m⟩:=(t _ _ _ _).2 d;refine⟨l,c,?_,m⟩;rw[f,dS,ao hE];exact p
     |some N=>
      rw[C]at d;obtain⟨w,d⟩:=d;obtain⟨g,f,l,c,p,m⟩:=(t _ _ _ _).2 d;refine⟨l,c,?_,m⟩;rw[f,dS,ao hE];simp only;rw[aq w];exact p
def Xd(l:af Oper)(f:List (Nat×Nat))(m:aa Tmp)(k:Op)(r:ab)(q:String)(p:af Edge)(j:List Oper)(g:Nat)(d:List (Nat×Nat))(c:List (Nat×H×H))(b a:fH)(h:H)(i:fH->H->Prop):
 Jp cx cf G l f (⟨m,k,r,q,p,none⟩::j) g d c b a h i=
  WX (fin cf h (iT k cx G ⟨b,a⟩ h)) λs o=>DK cx G f g d c k ⟨b,a⟩ h o λd c=>WD G m s b a λb a=>Jp cx cf G l f j (g+1) d c b a o i:=HC l f _ j g d c b a h i
def RK(cx:Ctx)(cf:iH)(G:Nat)(d:af Oper)(c:List Oper)(a f:fH)(h:H)(b:iq):Prop:=WR cx cf G d c a f h λa h=>b.n ⟨a,.nil⟩ h
def XK(k:aa (T×H))(cx:Ctx)(cf:iH)(G:Nat)(i:af Oper)(d:aa Tmp)(g:List Oper)(b a:fH)(c:iq):Prop:=WX k λj f=>WD G d j b a λb a=>RK cx cf G i g b a f c
def GK(j:aa Bool)(cx:Ctx)(cf:iH)(G:Nat)(g:af Oper)(d:aa Tmp)(i:Op)(f:List Oper)(b a:fH)(h:H)(c:iq):Prop:=
 WG j (XK (fin cf h (iT i cx G ⟨b,a⟩ h)) cx cf G g d f b a c) (WD G d .undef b a λb a=>RK cx cf G g f b a h c)
@[simp]def age (c:af Oper) (a d:fH) (h:H) (b:iq):RK cx cf G c [] a d h b=b.n ⟨a,.nil⟩ h:=PT c a d h _
@[simp]def agU (g:af Oper) (c:aa Tmp) (f:Op) (l:ab) (k:String) (j:af Edge) (d:List Oper) (b a:fH) (h:H) (i:iq):
 RK cx cf G g (⟨c,f,l,k,j,none⟩::d) b a h i=XK (fin cf h (iT f cx G ⟨b,a⟩ h)) cx cf G g c d b a i:=ab3 g c f l k j d b a h _
@[simp]def ez (a:af Oper) (f:aa Tmp) (j:Op) (o:ab) (m:String) (l:af Edge) (g:Nat) (d:Bool) (i:List Oper) (c b:fH) (h:H) (k:iq):
 RK cx cf G a (⟨f,j,o,m,l,some (g,d)⟩::i) c b h k=GK (ka a G ⟨c,b⟩ (some (g,d))) cx cf G a f j i c b h k:=PU a f j o m l g d i c b h _
@[simp]theorem aeb (g:T) (h:H) (c:af Oper) (b:List Oper) (f d:fH) (a:iq):XK (some (g,h)) cx cf G c none b f d a=RK cx cf G c b f d h a:=by
 unfold XK;rw[yV];rfl
@[simp]def aea (g:T) (h:H) (d:af Oper) (a:Tmp) (c:List Oper) (i f:fH) (b:iq):XK (some (g,h)) cx cf G d (some a) c i f b=
 if(G>>>a)&&&1=1 then RK cx cf G d c (put i a g) f h b else RK cx cf G d c i (.cons a g f) h b:=by
 unfold XK;rw[yV,FA]
@[simp]def aen (i:af Oper) (d:aa Tmp) (g:Op) (f:List Oper) (b a:fH) (h:H) (c:iq):GK (some true) cx cf G i d g f b a h c=XK (fin cf h (iT g cx G ⟨b,a⟩ h)) cx cf G i d f b a c:=id rfl
@[simp]def ab9 (g:af Oper) (c:Tmp) (i:Op) (f:List Oper) (b a:fH) (h:H) (d:iq):GK (some false) cx cf G g (some c) i f b a h d=if(G>>>c)&&&1=1 then RK cx cf G g f (put b c .undef) a h d else RK cx cf G g f b (.cons c .undef a) h d:=by
 show WD G (some c) .undef b a (λb a=>RK cx cf G g f b a h d)=_;rw[FA]
@[simp]def YR (c:af Oper) (g:Op) (b:List Oper) (f d:fH) (h:H) (a:iq):GK (some false) cx cf G c none g b f d h a=RK cx cf G c b f d h a:=id rfl
def KU(cx:Ctx)(G:Nat)(b:List (Nat×Nat))(d:Nat)(c:List (Nat×H×H))(f:Op)(e:Env):Prop:=match f with
 | .store _ g _=>(match M (fq cx G e g) dM with|some a=>ml b d a c|none=>True)
 |_=>True
def PC(b:List (Nat×Nat))(d:Nat)(c:List (Nat×H×H))(f:aa Nat):Prop:=match f with|some a=>ml b d a c|none=>True
@[simp]def WZ (a:List (Nat×Nat)) (c:Nat) (b:List (Nat×H×H)):PC a c b none=True:=id rfl
@[simp]def WY (b:List (Nat×Nat)) (d:Nat) (c:List (Nat×H×H)) (a:Nat):PC b d c (some a)=ml b d a c:=id rfl
@[simp]def Bv (a:List (Nat×Nat)) (c:Nat) (b:List (Nat×H×H)) (f:ab) (d g:ah) (e:Env):KU cx G a c b (.store f d g) e=PC a c b (M (fq cx G e d) dM):=id rfl
@[simp]def Xw (b:List (Nat×Nat)) (d:Nat) (c:List (Nat×H×H)) (a:Call) (e:Env):KU cx G b d c (.call a) e=True:=id rfl
@[simp]def ZG (d:List (Nat×Nat)) (g:Nat) (f:List (Nat×H×H)) (i:ab) (a b c:ah) (e:Env):KU cx G d g f (.mapUpdate i a b c) e=True:=id rfl
def Ql(cx:Ctx)(cf:iH)(G:Nat)(j:af Oper)(c:List (Nat×Nat))(g:List Oper)(f:Nat)(i:List (Nat×Nat))(d:List (Nat×H×H))(a k:fH)(h:H)(b:iq):Prop:=Jp cx cf G j c g f i d a k h λa h=>b.n ⟨a,.nil⟩ h
def Mi(q:aa (T×H))(cx:Ctx)(cf:iH)(G:Nat)(o:af Oper)(f:List (Nat×Nat))(k:aa Tmp)(m:Op)(l:List Oper)(i:Nat)(d:List (Nat×Nat))(c:List (Nat×H×H))(b a:fH)(h:H)(j:iq):Prop:=
 WX q λp g=>DK cx G f i d c m ⟨b,a⟩ h g λd c=>WD G k p b a λb a=>Ql cx cf G o f l (i+1) d c b a g j
def DGK(o:aa Bool)(cx:Ctx)(cf:iH)(G:Nat)(m:af Oper)(d:List (Nat×Nat))(f:aa Tmp)(l:Op)(j:List Oper)(i:Nat)(k:List (Nat×Nat))(g:List (Nat×H×H))(b a:fH)(h:H)(c:iq):Prop:=
 WG o (Mi (fin cf h (iT l cx G ⟨b,a⟩ h)) cx cf G m d f l j i k g b a h c) (WD G f .undef b a λb a=>Ql cx cf G m d j (i+1) k g b a h c)
def P8(m:T)(cx:Ctx)(cf:iH)(G:Nat)(l:af Oper)(d:List (Nat×Nat))(f:aa Tmp)(j:List Oper)(i:Nat)(k:List (Nat×Nat))(g:List (Nat×H×H))(b a:fH)(h:H)(c:iq):Prop:=WD G f m b a λb a=>Ql cx cf G l d j i k g b a h c
def DLK(p:aa Nat)(m:T)(cx:Ctx)(cf:iH)(G:Nat)(k:af Oper)(b:List (Nat×Nat))(i:aa Tmp)(j:List Oper)(a:Nat)(d:List (Nat×Nat))(c:List (Nat×H×H))(o l:fH)(h:H)(f:iq):Prop:=match p with
 |none=>P8 m cx cf G k b i j (a+1) d c o l h f
 |some g=>ml b a g c/\P8 m cx cf G k b i j (a+1) (if kW b a=true then(a,g)::d else d) c o l h f
@[simp]def aci (l:T) (j:af Oper) (b:List (Nat×Nat)) (c:aa Tmp) (g:List Oper) (f:Nat) (i:List (Nat×Nat)) (d:List (Nat×H×H)) (m k:fH) (h:H) (a:iq):DLK none l cx cf G j b c g f i d m k h a=P8 l cx cf G j b c g (f+1) i d m k h a:=id rfl
@[simp]def P9 (c:Nat) (m:T) (k:af Oper) (b:List (Nat×Nat)) (i:aa Tmp) (j:List Oper) (a:Nat) (f:List (Nat×Nat)) (d:List (Nat×H×H)) (o l:fH) (h:H) (g:iq):DLK (some c) m cx cf G k b i j a f d o l h g=(ml b a c d/\P8 m cx cf G k b i j (a+1) (if kW b a=true then(a,c)::f else f) d o l h g):=id rfl
@[simp]def ach (l:T) (i:af Oper) (b:List (Nat×Nat)) (f:List Oper) (d:Nat) (g:List (Nat×Nat)) (c:List (Nat×H×H)) (k j:fH) (h:H) (a:iq):P8 l cx cf G i b none f d g c k j h a=Ql cx cf G i b f d g c k j h a:=id rfl
@[simp]def acg (l:T) (j:af Oper) (c:List (Nat×Nat)) (a:Tmp) (g:List Oper) (f:Nat) (i:List (Nat×Nat)) (d:List (Nat×H×H)) (m k:fH) (h:H) (b:iq):P8 l cx cf G j c (some a) g f i d m k h b=
 if(G>>>a)&&&1=1 then Ql cx cf G j c g f i d (put m a l) k h b else Ql cx cf G j c g f i d m (.cons a l k) h b:=by unfold P8;rw[FA]
@[simp]def aeu (i:af Oper) (c:List (Nat×Nat)) (f:Nat) (g:List (Nat×Nat)) (d:List (Nat×H×H)) (a j:fH) (h:H) (b:iq):Ql cx cf G i c [] f g d a j h b=b.n ⟨a,.nil⟩ h:=KC i c f g d a j h _
@[simp]def agj (l:af Oper) (d:List (Nat×Nat)) (f:aa Tmp) (a:Op) (q:ab) (p:String) (o:af Edge) (j:List Oper) (i:Nat) (k:List (Nat×Nat)) (g:List (Nat×H×H)) (c b:fH) (h:H) (m:iq):
 Ql cx cf G l d (⟨f,a,q,p,o,none⟩::j) i k g c b h m=Mi (fin cf h (iT a cx G ⟨c,b⟩ h)) cx cf G l d f a j i k g c b h m:=Xd l d f a q p o j i k g c b h _
@[simp]def ack (m:af Oper) (f:List (Nat×Nat)) (g:aa Tmp) (a:Op) (k:List Oper) (j:Nat) (l:List (Nat×Nat)) (i:List (Nat×H×H)) (c b:fH) (h:H) (d:iq):DGK (some true) cx cf G m f g a k j l i c b h d=Mi (fin cf h (iT a cx G ⟨c,b⟩ h)) cx cf G m f g a k j l i c b h d:=id rfl
@[simp]def YT (j:af Oper) (b:List (Nat×Nat)) (c:aa Tmp) (m:Op) (g:List Oper) (f:Nat) (i:List (Nat×Nat)) (d:List (Nat×H×H)) (l k:fH) (h:H) (a:iq):DGK (some false) cx cf G j b c m g f i d l k h a=P8 .undef cx cf G j b c g (f+1) i d l k h a:=id rfl
def DEK(q:Bool)(p:T)(d:H)(cx:Ctx)(cf:iH)(G:Nat)(o:af Oper)(b:List (Nat×Nat))(k:aa Tmp)(m:Op)(l:List Oper)(a:Nat)(i:List (Nat×Nat))(c:List (Nat×H×H))(g f:fH)(h:H)(j:iq):Prop:=match q with
 |true=>(vm b a h d i/\KU cx G b a c m ⟨g,f⟩)/\P8 p cx cf G o b k l (a+1) i (if kW b a=true then(a,h,d)::c else c) g f d j
 |false=>DLK (fP cx G ⟨g,f⟩ h m) p cx cf G o b k l a i c g f d j
@[simp]def Qa (p:T) (d:H) (o:af Oper) (b:List (Nat×Nat)) (k:aa Tmp) (m:Op) (l:List Oper) (a:Nat) (f:List (Nat×Nat)) (c:List (Nat×H×H)) (i g:fH) (h:H) (j:iq):DEK true p d cx cf G o b k m l a f c i g h j=((vm b a h d f/\KU cx G b a c m ⟨i,g⟩)/\P8 p cx cf G o b k l (a+1) f (if kW b a=true then(a,h,d)::c else c) i g d j):=id rfl
@[simp]def Mj (p:T) (i:H) (o:af Oper) (d:List (Nat×Nat)) (f:aa Tmp) (m:Op) (k:List Oper) (j:Nat) (l:List (Nat×Nat)) (g:List (Nat×H×H)) (b a:fH) (h:H) (c:iq):DEK false p i cx cf G o d f m k j l g b a h c=DLK (fP cx G ⟨b,a⟩ h m) p cx cf G o d f k j l g b a i c:=id rfl
@[simp]theorem acf (c:T) (q:H) (u:af Oper) (i:List (Nat×Nat)) (p:aa Tmp) (a:Op) (s:List Oper) (k:Nat) (t:List (Nat×Nat)) (j:List (Nat×H×H)) (d b:fH) (h:H) (o:iq):
 Mi (some (c,q)) cx cf G u i p a s k t j d b h o=DEK (gJ a) c q cx cf G u i p a s k t j d b h o:=by
 unfold Mi;rw[yV];unfold DK;cases hE:gJ a with
 |true=>
  rw[aq rfl,Qa];have:(∀m f c g,a= .store m f c->M (fq cx G ⟨d,b⟩ f) dM=some g->ml i k g j)↔KU cx G i k j a ⟨d,b⟩:=by
   constructor
   ·intro l;cases a<;>first|exact trivial|skip
    rename_i m f c;rw[Bv];cases r:M (fq cx G ⟨d,b⟩ f) dM with
    |none=>simp
    |some g=>simp_all
   ·intro l m f c g v r;subst v;rw[Bv,r]at l;exact l
  rw[this];rfl
 |false=>
  rw[ao J,Mj];cases fP cx G ⟨d,b⟩ h a<;>rfl
section
variable (e:Env)(h:H)
@[simp]def Ud (a:ab) (c b:ah):gJ (.store a c b)=true:=id rfl
@[simp]def Ue (b:ah) (a:af ah) (c:af ab):gJ (.call ⟨.value b,a,c⟩)=true:=id rfl
@[simp]def Uf (a:Builtin) (b:af ah) (c:af ab):gJ (.call ⟨.builtin a,b,c⟩)=(match a with| .len| .min| .max=>false|_=>true):=id rfl
@[simp]def VP (a:ah):gJ (.move a)=false:=id rfl
@[simp]def Rf (a:ah):gJ (.assign a)=false:=id rfl
@[simp]def VO (a b c:ah):gJ (.pick a b c)=false:=id rfl
@[simp]def VQ (a:ab) (b:ah):gJ (.load a b)=false:=id rfl
@[simp]def aa3 (a:ah):gJ (.nilCheck a)=false:=id rfl
@[simp]def aa9 (b:ab) (c:ah) (a:Nat):gJ (.fieldAddr b c a)=false:=id rfl
@[simp]def aa8 (b:ab) (c:ah) (a:Nat):gJ (.field b c a)=false:=id rfl
@[simp]def aa7 (a:ab) (b c:ah):gJ (.indexAddr a b c)=false:=id rfl
@[simp]def aa6 (a:ab) (b c:ah):gJ (.index a b c)=false:=id rfl
@[simp]def Ye (a:BinOp) (b c:ab) (d f:ah):gJ (.binOp a b d f c)=false:=id rfl
@[simp]def aa1 (a:UnOp) (b:ab) (c:ah):gJ (.unOp a b c)=false:=id rfl
@[simp]def Uh (a:ab):gJ (.alloc a)=false:=id rfl
@[simp]def Yd (a:ab) (b:ah):gJ (.box a b)=false:=id rfl
@[simp]def Ug (b:ab) (a:af (Nat×ah)):gJ (.build b a)=false:=id rfl
@[simp]def abc (b:ab) (n:Nat) (a:af (Nat×ah)):gJ (.buildSlice b n a)=false:=id rfl
@[simp]def aa4 (a:ab) (b c:ah):gJ (.makeSlice a b c)=false:=id rfl
@[simp]def aa2 (d:ab) (f:ah) (a b c:aa ah):gJ (.slice d f a b c)=false:=id rfl
@[simp]def aba (b:ah) (a:Nat):gJ (.extract b a)=false:=id rfl
@[simp]def abb (a b:ab) (c:ah):gJ (.convert a b c)=false:=id rfl
@[simp]def aa5 (c:Fn) (a b:af ah):gJ (.makeFunc c a b)=false:=id rfl
@[simp]def acL (b:ab) (a:ah):fP cx G e h (.load b a)=M (fq cx G e a) dM:=id rfl
@[simp]def agK (b:ab) (a c:ah):fP cx G e h (.indexAddr b a c)=M (fq cx G e a) dM:=id rfl
@[simp]def agF (f:ab) (a:ah) (b c d:aa ah):fP cx G e h (.slice f a b c d)=M (fq cx G e a) dM:=id rfl
@[simp]def agO (b c:ab) (a:ah):fP cx G e h (.convert b c a)=M (fq cx G e a) dM:=id rfl
@[simp]def aaY (a:ab):fP cx G e h (.alloc a)=some h.size:=id rfl
@[simp]def afp (a:ab) (b:ah):fP cx G e h (.box a b)=some h.size:=id rfl
@[simp]def agP (b:ab) (n:Nat) (a:af (Nat×ah)):fP cx G e h (.buildSlice b n a)=some h.size:=id rfl
@[simp]def agH (a:ab) (b c:ah):fP cx G e h (.makeSlice a b c)=some h.size:=id rfl
@[simp]def acK (a:ah):fP cx G e h (.move a)=none:=id rfl
@[simp]def Yc (a:ah):fP cx G e h (.assign a)=none:=id rfl
@[simp]def acJ (a b c:ah):fP cx G e h (.pick a b c)=none:=id rfl
@[simp]def agG (a:ah):fP cx G e h (.nilCheck a)=none:=id rfl
@[simp]def agM (b:ab) (c:ah) (a:Nat):fP cx G e h (.fieldAddr b c a)=none:=id rfl
@[simp]def agL (b:ab) (c:ah) (a:Nat):fP cx G e h (.field b c a)=none:=id rfl
@[simp]def agJ (a:ab) (b c:ah):fP cx G e h (.index a b c)=none:=id rfl
@[simp]def afq (a:BinOp) (b c:ab) (d f:ah):fP cx G e h (.binOp a b d f c)=none:=id rfl
@[simp]def agE (a:UnOp) (b:ab) (c:ah):fP cx G e h (.unOp a b c)=none:=id rfl
@[simp]def aaX (b:ab) (a:af (Nat×ah)):fP cx G e h (.build b a)=none:=id rfl
@[simp]def agN (b:ah) (a:Nat):fP cx G e h (.extract b a)=none:=id rfl
@[simp]def acM (a:Call):fP cx G e h (.call a)=none:=id rfl
@[simp]def agI (c:Fn) (a b:af ah):fP cx G e h (.makeFunc c a b)=none:=id rfl
@[simp]def YG (a b c d:Nat):dM (.ptr a b c d)=some a:=id rfl
@[simp]theorem Ag (a b f d:Nat) (c:Bool):dM (.arr a b f d c)=some a:=id rfl
@[simp]def WT (a:List T) (b:Bool):dM (.Y a b)=none:=id rfl
@[simp]def WS:dM .fK=none:=id rfl
@[simp]def WU (a:List T):dM (.jh a)=none:=id rfl
@[simp]def YH (a:ak) (n:Int):dM (.int a n)=none:=id rfl
@[simp]def YF (a:List Nat):dM (.str a)=none:=id rfl
end
variable {dl:DL}
def QK(cx:Ctx)(cf:iH)(G:Nat)(a:List Oper)(f:aa (List (Nat×Nat)))(c:fH)(h:H)(b:iq):Prop:=match f with
 |none=>RK cx cf G a.toArray a c .nil h b
 |some d=>Ql cx cf G a.toArray d a 0 [] [] c .nil h b
@[simp]def ael (a:List Oper) (c:fH) (h:H) (b:iq):QK cx cf G a none c h b=RK cx cf G a.toArray a c .nil h b:=id rfl
@[simp]def aej (a:List Oper) (c:List (Nat×Nat)) (d:fH) (h:H) (b:iq):QK cx cf G a (some c) d h b=Ql cx cf G a.toArray c a 0 [] [] d .nil h b:=id rfl
def Uu(c:aa (Env×H))(d:iq):W (M c λg=>two g λb a=>some (.normal,(⟨b.vars,.nil⟩:Env),a)) d=∃b a,c=some (b,a)/\d.n ⟨b.vars,.nil⟩ a:=by
 cases c with
 |none=>apply propext;constructor<;>(first|(rintro⟨k,a,j,i,_⟩;simp_all)|simp)
 |some f=>
  obtain⟨b,a⟩:=f;simp only[dS,km,C0,ar,aB]
  grind
@[simp]def agc (id:Nat) (b:List Oper) (f:Bool) (c d:fH) (h:H) (a:iq):W (jk cx cf n G dl (.region id b.toArray f) ⟨c,d⟩ h) a=QK cx cf G b (dl.lookup id) c h a:=by
 show W (MY cx cf G dl id b.toArray ⟨c,d⟩ h) a=_;unfold MY;cases dl.lookup id with
 |none=>exact Uu _ a
 |some g=>exact Uu _ a
@[simp]def aga (b c:Code) (e:Env) (h:H) (a:iq):W (jk cx cf n G dl (.seq b c) e h) a=W (jk cx cf n G dl b e h) (EQ (jk cx cf n G dl c) a):=abX _ _ e h a
@[simp]def ab0 (id:Nat) (b:Code) (e:Env) (h:H) (a:iq):W (jk cx cf n G dl (.block id b) e h) a=W (jk cx cf n G dl b e h) (qS id a):=R4 id _ e h a
def CK(d:aa T)(cx:Ctx)(cf:iH)(n G:Nat)(dl:DL)(b c:Code)(e:Env)(h:H)(a:iq):Prop:=Kj d (W (jk cx cf n G dl b e h) a) (W (jk cx cf n G dl c e h) a)
@[simp]def fj (d:Bool) (b c:Code) (e:Env) (h:H) (a:iq):CK (some (.bool d)) cx cf n G dl b c e h a=if d=true then W (jk cx cf n G dl b e h) a else W (jk cx cf n G dl c e h) a:=id rfl
@[simp]def aef (a:Nat) (f g:Code) (c b:fH) (h:H) (d:iq):W (jk cx cf n G dl (.cond (.tmp a) f g) ⟨c,b⟩ h) d=CK (if(G>>>a)&&&1=1 then dG c a else dG b a) cx cf n G dl f g ⟨c,b⟩ h d:=by
 rw[<-A8];apply propext;unfold CK;show W (M (Env.get G ⟨c,b⟩ a) λi=>_) d↔_;cases Env.get G ⟨c,b⟩ a with
 |none=>simp[M,Kj,PN]
 |some i=>
  simp only[dS];cases i<;>simp only[Kj,PN];rename_i j;cases j<;>simp
@[simp]theorem aed (b:Code) (e:Env) (h:H) (a:iq):W (jk cx cf n G dl (.loop b) e h) a=W (nI (jk cx cf n G dl b) n e h) a:=rfl
@[simp]def aec (e:Env) (h:H) (a:iq):W (jk cx cf n G dl .skip e h) a=a.n e h:=C0 e h a
@[simp]def aee (id:Nat) (e:Env) (h:H) (a:iq):W (jk cx cf n G dl (.exit id) e h) a=a.x id e h:=Fx id e h a
@[simp]def agb (e:Env) (h:H) (a:iq):W (jk cx cf n G dl .ret e h) a=a.r e h:=abY e h a
end
end
section
noncomputable section
variable {cx:Ctx}{cf:iH}{G:Nat}{e:Env}{h:H}
attribute [simp] Oz lN jp H.ku
@[simp]theorem Ub {b c:Type} (a:b->aa c):fG a []=some []:=rfl
@[simp]def aab (c b:fH) (a:Nat):fq cx G ⟨c,b⟩ (.tmp a)=if(G>>>a)&&&1=1 then dG c a else dG b a:=A8 c b a
@[simp]theorem aac (a:ak) (b:Int):fq cx G e (.const (.int a b))=some (.int a b):=rfl
@[simp]theorem XR (a:Bool):fq cx G e (.const (.bool a))=some (.bool a):=rfl
@[simp]theorem XL:fq cx G e (.const (.slice none 0 0))=some (.Y [] false):=rfl
@[simp]theorem XM:fq cx G e (.const (.pointer none))=some .jQ:=rfl
@[simp]theorem XN:fq cx G e (.const (.map none))=some .mw:=rfl
@[simp]theorem XP:fq cx G e (.const .nilFunc)=some .kj:=rfl
@[simp]theorem XO:fq cx G e (.const .nilIface)=some .kq:=rfl
@[simp]theorem Nu (b:ByteArray):fq cx G e (.const (.string b))=some (.str (b.data.toList.map UInt8.toNat)):=by
 show(M (Af b.data.toList) λa=>some (T.str a))=_;have:∀a:List UInt8,Af a=some (a.map UInt8.toNat):=by
  intro a;induction a with
  |nil=>rfl
  |cons f a c=>
   show(M (fU f.toNat) λg=>M (Af a) λd=>some (g::d))=_;rw[c];simp
 rw[this];rfl
@[simp]theorem Le (a:aj):fq cx G e (.func a)=some (.func a []):=rfl
@[simp]theorem XQ (a:Nat):fq cx G e (.global a)=M (cx.gl a) λb=>some (.jh b):=rfl
@[simp]theorem F8 (a:List ah):py cx G e a=fG (fq cx G e) a:=rfl
def jM(a:Int):aa Nat:=if 0<=a then some a.toNat else none
@[simp]theorem Xs (b:ak) (a:Int):mZ (.int b a)=jM a:=by
 unfold jM;cases a with
 |ofNat c=>rw[aq J];rfl
 |negSucc c=>rw[ao B];rfl
@[simp]theorem HU (a:Nat):jM (a:Int)=some a:=by unfold jM;rw[aq B];rfl
@[simp]def UK (a:Nat):jM (no_index (OfNat.ofNat a):Int)=some a:=HU a
@[simp]def Zz:jM 0=some 0:=id rfl
@[simp]def Zy:jM 1=some 1:=id rfl
def ee{a:Int}(h:0<=a):jM a=some a.toNat:=by unfold jM;rw[aq h]
@[simp]theorem acD (a:ah):iT (.move a) cx G e h=val h (fq cx G e a):=rfl
@[simp]theorem XV (a:ah):iT (.assign a) cx G e h=val h (fq cx G e a):=rfl
def lP(a:aa T)(b c:aa kC):aa kC:=M a λa=>match a with| .bool d=>if d=true then b else c|_=>none
@[simp]theorem d8 (c:Bool) (a b:aa kC):lP (some (.bool c)) a b=if c=true then a else b:=rfl
@[simp]def Q2 (a b c:ah):iT (.pick a b c) cx G e h=lP (fq cx G e a) (val h (fq cx G e b)) (val h (fq cx G e c)):=by
 show(M (fq cx G e a) λa=>_)=_;unfold lP;cases fq cx G e a with
 |none=>rfl
 |some f=>cases f<;>first|rfl|(rename_i d;cases d<;>rfl)
@[simp]theorem VR (a:Ty):wi cx a=(match a.u with
 | .array _ b=>Option.casesOn (cx.ty b) false λd=>(match d.u with| .int c=>C7 c .u8|_=>false)
 |_=>false):=rfl
@[simp]def aaB (b:ab):iT (.alloc b) cx G e h=M (cx.ty b) λa=>if wi cx a=true then some (.val (.ptr h.size 0 0 0) (h.cons (kN 1 true a.zero)))else some (.val (.ptr h.size 0 0 0) (h.cons (kN a.size true [a.jW]))):=by
 show(M (cx.ty b) λa=>_)=_;cases cx.ty b with
 |none=>rfl
 |some a=>
  simp only[dS];cases wi cx a<;>simp
@[simp]theorem LE (b:Nat) (c:Bool) (a:List T):kN b c a=⟨b,0,0,c,false,a⟩:=rfl
@[simp]def afg (d:ab) (b:ah):iT (.box d b) cx G e h=M (fq cx G e b) λa=>fQ a.fg (some (.val (.ptr h.size 0 0 0) (h.cons ⟨a.cells.length,0,0,true,false,[a]⟩))):=by
 show(M (fq cx G e b) λa=>fQ a.fg (jl (h.new (λc=> .ptr c 0 0 0) (kN (kv a.cells) true [a]))))=_;simp
def xh(cx:Ctx)(G:Nat)(e:Env):List (Nat×ah)->aa (List (Nat×T))
 | []=>some []
 |(b,d)::c=>M (fq cx G e d) λa=>fQ a.fg (M (xh cx G e c) λf=>some ((b,a)::f))
@[simp]theorem Ve:xh cx G e []=some []:=rfl
@[simp]theorem F7 (a:Nat) (c:ah) (b:List (Nat×ah)):xh cx G e ((a,c)::b)=M (fq cx G e c) λd=>fQ d.fg (M (xh cx G e b) λf=>some ((a,d)::f)):=rfl
def BV(a:List (Nat×ah)):partsOf cx G e a=xh cx G e a:=by
 induction a with
 |nil=>rfl
 |cons i a g=>
  obtain⟨f,c⟩:=i;show(M (M (fq cx G e c) λb=>fQ b.fg (some (f,b))) λk=>M (partsOf cx G e a) λj=>some (k::j))=_;rw[g,F7];cases fq cx G e c with
  |none=>rfl
  |some b=>cases d:b.fg<;>simp[d]
def Cz(cx:Ctx)(c:List (Nat×ab)):List (Nat×T)->List T->aa (List T)
 | [],a=>some a
 |(g,d)::i,a=>M (c[g]?) λb=>M (cx.ty b.2) λj=>fQ (decide (d.cells.length=j.size)) (M (kc a b.1 d.cells) λf=>Cz cx c i f)
@[simp]theorem Yq (b:List (Nat×ab)) (a:List T):Cz cx b [] a=some a:=rfl
@[simp]theorem IV (a:List (Nat×ab)) (f:Nat) (b:T) (g:List (Nat×T)) (c:List T):Cz cx a ((f,b)::g) c=M (a[f]?) λd=>M (cx.ty d.2) λj=>fQ (decide (b.cells.length=j.size)) (M (kc c d.1 b.cells) λi=>Cz cx a g i):=rfl
def E6(g:List (Nat×ab)):∀(c:List (Nat×T)) (f:List T),mf (λb=>M (lF g b) λa=>M (cx.ty a.2) λd=>some (a.1,d.size)) c f=Cz cx g c f:=by
 intro c;induction c with
 |nil=>intro f;rfl
 |cons l c m=>
  intro f;obtain⟨b,j⟩:=l;show(M (M (lF g b) λa=>M (cx.ty a.2) λd=>some (a.1,d.size)) λi=>fQ (Nat.beq (kv j.cells) i.2) (M (kc f i.1 j.cells) λk=>mf (λb=>M (lF g b) λa=>M (cx.ty a.2) λd=>some (a.1,d.size)) c k))=_;rw[IV,ky];cases g[b]? with
  |none=>rfl
  |some a=>
   simp only[dS];cases cx.ty a.2 with
   |none=>rfl
   |some d=>simp_all
def CC(b:Nat):List (Nat×T)->List T->aa (List T)
 | [],a=>some a
 |(f,c)::g,a=>fQ (decide (c.cells.length=b)) (M (kc a (f*b) c.cells) λd=>CC b g d)
@[simp]theorem Yr (b:Nat) (a:List T):CC b [] a=some a:=rfl
@[simp]theorem V9 (a d:Nat) (b:T) (f:List (Nat×T)) (c:List T):CC a ((d,b)::f) c=fQ (decide (b.cells.length=a)) (M (kc c (d*a) b.cells) λg=>CC a f g):=rfl
def Dq(a:Nat):∀(b:List (Nat×T)) (c:List T),mf (λd=>some (Nat.mul d a,a)) b c=CC a b c:=by
 intro b;induction b with
 |nil=>intro c;rfl
 |cons i b j=>
  intro c;obtain⟨d,f⟩:=i;show(fQ (Nat.beq (kv f.cells) a) (M (kc c (Nat.mul d a) f.cells) λg=>mf (λd=>some (Nat.mul d a,a)) b g))=_;simp_all
@[simp]def Xy (c b:T) (a:List T):kc (c::a) 0 [b]=some (b::a):=by rw[sL];simp
@[simp]def Xx (f c d:T) (a b:List T):kc (f::a) 0 (c::d::b)=M (kc a 0 (d::b)) λg=>some (c::g):=by
 rw[sL,sL];simp only[aY,cB,List.take_zero,List.nil_append];by_cases hl:b.length+1<=a.length
 ·rw[aq B,aq B];simp
 simp_all[ao]
@[simp]theorem ZH (a:T) (b d:List T) (c:Nat):kc (a::b) (c+1) d=M (kc b c d) λf=>some (a::f):=rfl
@[simp]theorem UP (b:T) (c d:List T) (a:Nat) [NeZero a]:kc (b::c) (no_index (OfNat.ofNat a)) d=M (kc c (a-1) d) λg=>some (b::g):=by
 have⟨i,f⟩:=Nat.exists_eq_succ_of_ne_zero (NeZero.ne a);show kc (b::c) a d=_;rw[f];rfl
def Jf(cx:Ctx)(h:H)(b:Ty)(c:List (Nat×T)):aa kC:=match b.u with
 | .struct f=>M (Cz cx f c b.zero) λa=>some (.val (.agg a) h)
 | .array _ d=>M (cx.ty d) λg=>M (CC g.size c b.zero) λa=>some (.val (.agg a) h)
 |_=>none
@[simp]theorem YE (a:Ty) (c:List (Nat×T)):Jf cx h a c=(match a.u with
 | .struct f=>M (Cz cx f c a.zero) λb=>some (.val (.agg b) h)
 | .array _ d=>M (cx.ty d) λg=>M (CC g.size c a.zero) λb=>some (.val (.agg b) h)
 |_=>none):=rfl
@[simp]def aaA (c:ab) (a:List (Nat×ah)):iT (.build c a.toArray) cx G e h=M (cx.ty c) λb=>M (xh cx G e a) λa=>Jf cx h b a:=by
 show(M (cx.ty c) λb=>M (partsOf cx G e a) λa=>_)=_;rw[BV];congr 1;funext b;congr 1;funext a;unfold Jf;cases b.u<;>first|rfl|(simp only[E6,Dq,xP])
def Ad(c:Nat):List (Nat×T)->List T->aa (List T)
 | [],a=>some a
 |(b,d)::f,a=>fQ (decide (d.cells.length=c)) (fQ (decide (b<a.length)) (Ad c f (a.set b d)))
@[simp]theorem We (b:Nat) (a:List T):Ad b [] a=some a:=rfl
@[simp]theorem He (c b:Nat) (d:T) (f:List (Nat×T)) (a:List T):Ad c ((b,d)::f) a=fQ (decide (d.cells.length=c)) (fQ (decide (b<a.length)) (Ad c f (a.set b d))):=rfl
def E5(c:Nat):∀(b:List (Nat×T)) (a:List T),oP c b a=Ad c b a:=by
 intro b;induction b with
 |nil=>intro a;rfl
 |cons k b j=>
  intro a;obtain⟨d,f⟩:=k;show(fQ (Nat.beq (kv f.cells) c) (M (kf a d f) λg=>oP c b g))=_;simp only[jz,Bg,j,He,kl];by_cases i:d<a.length<;>simp[i]
@[simp]def Qe (f:ab) (b:Nat) (c:List (Nat×ah)):iT (.buildSlice f b c.toArray) cx G e h=M (cx.ty f) λd=>(match d.u with
 | .slice g=>M (cx.ty g) λa=>M (xh cx G e c) λc=>fQ (decide (1<=a.size))<|fQ (decide (b*a.size<=65536)) (M (Ad a.size c (List.replicate b a.jW)) λi=>
  some (.val (.arr h.size 0 0 b false) (h.cons ⟨a.size,0,0,true,false,i⟩)))
 |_=>none):=by
 show(M (cx.ty f) λd=>_)=_;congr 1;funext d;cases d.u<;>first|rfl|skip
 simp[FG,LE,RW,H.ku,oY,E5,BV]
@[simp]theorem acE (b:ab) (a:ah):iT (.load b a) cx G e h=M (cx.ty b) λc=>M (fq cx G e a) λa=>val h (h.load c a):=rfl
def ldB(a:iI)(c d f:Nat)(g:Ty):aa T:=fQ (decide (a.ep=c)) (if a.it=true then none else M (a.eg[d]?) λe=>M (jB f e.cells) λb=>j4 g b)
@[simp]def VH (l b m:Nat) (k f:Bool) (c:List T) (a d g:Nat) (i:Ty):ldB ⟨l,b,m,k,f,c⟩ a d g i=fQ (decide (b=a)) (if f=true then none else M (c[d]?) λe=>M (jB g e.cells) λj=>j4 i j):=id rfl
@[simp]def VF (j:Ty) (b c f i:Nat):h.load j (.ptr b c f i)=M (h.get b) λa=>ldB a c f i j:=by
 show(M (M (h.get b) λa=>iI.casesOn a λ_ d _ _ g l=>fQ (Nat.beq d c) (Bool.casesOn g (lF l f) none)) λe=>M (jB i e.cells) λk=>j4 j k)=_;cases h.get b with
 |none=>rfl
 |some a=>
  obtain⟨o,d,p,n,g,m⟩:=a;simp only[dS,VH,Bg,ky];cases decide (d=c)<;>cases g<;>simp
def FO(h:H)(c:Nat)(a:iI)(f b g:Nat)(i:List T):aa H:=fQ (decide (a.ep=f)) (if a.it=true then none else M (a.eg[b]?) λe=>M (lj e g i) λd=>some (dT h c ⟨a.sz,a.ep,a.ver+1,a.exact,false,a.eg.set b d⟩))
@[simp]def UO (d k a l:Nat) (g i:Bool) (b:List T) (f c j:Nat) (m:List T):FO h d ⟨k,a,l,g,i,b⟩ f c j m=fQ (decide (a=f)) (if i=true then none else M (b[c]?) λe=>M (lj e j m) λn=>some (dT h d ⟨k,a,l+1,g,false,b.set c n⟩)):=id rfl
def uZ{a:Nat}{m:iI}(f:h.get a=some m)(d:iI):h.put a d=some (dT h a d):=by
 have:∃c,h.put a d=some c:=by
  obtain⟨b,g,i⟩:=h;rw[H.get_eq]at f;simp only at f;by_cases k:a<b
  ·rw[aq k]at f;have hl:b-1-a<i.length:=by
    grind
   show∃c,(fQ (Nat.blt a b) (M (kf i (Nat.sub (Nat.sub b 1) a) d) λj=> @Bool.rec (λ_=>aa H) (some ⟨b,g,j⟩) (some ⟨b,a,j⟩) (Nat.blt a g)))=some c;rw[show Nat.blt a b=true by rw[aF];exact k,il,kl,aq B,dS];cases Nat.blt a g<;>exact⟨_,rfl⟩
  grind
 obtain⟨c,l⟩:=this;unfold dT;rw[l];rfl
@[simp]def act (l:Ty) (a i b g:Nat) (c:T):h.store l (.ptr a i b g) c=fQ (decide (c.cells.length=l.size)) (M (h.get a) λd=>FO h a d i b g c.cells):=by
 show(fQ (Nat.beq (kv c.cells) l.size) (M (h.get a) λd=>iI.casesOn d λo j p exact k n=>
  fQ (Nat.beq j i) (@Bool.rec (λ_=>aa H) (M (lF n b) λe=>M (lj e g c.cells) λm=>M (kf n b m) λf=>
   M (fU (Nat.succ p)) λq=>h.put a ⟨o,j,q,exact,false,f⟩) none k)))=_
 simp only[jz,Bg];cases t:h.get a with
 |none=>rfl
 |some d=>
  obtain⟨o,j,p,r,k,f⟩:=d;simp only[dS,UO];congr 1;congr 1;cases k with
  |true=>rfl
  |false=>
   simp only[ky,cd,bo];cases s:f[b]? with
   |none=>rfl
   |some e=>
    simp only[dS];cases lj e g c.cells with
    |none=>rfl
    |some m=>
     have u:b<f.length:=by
      grind
     simp_all[uZ,gX,aq,kl,dS]
@[simp]theorem aat (b:ab) (a d:ah):iT (.store b a d) cx G e h=M (cx.ty b) λg=>M (fq cx G e a) λa=>M (fq cx G e d) λc=>fQ c.fg (M (h.store g a c) λf=>some (.val .undef f)):=rfl
def ncW(h:H)(a:T):aa kC:=match a with| .ptr .. | .jh _| .func .. =>some (.val a h)|_=>none
@[simp]theorem acF (a b c d:Nat):ncW h (.ptr a b c d)=some (.val (.ptr a b c d) h):=rfl
@[simp]theorem aaF (a:List T):ncW h (.jh a)=some (.val (.jh a) h):=rfl
@[simp]theorem aaG (b:aj) (a:List T):ncW h (.func b a)=some (.val (.func b a) h):=rfl
@[simp]theorem T8 (a:ah):iT (.nilCheck a) cx G e h=M (fq cx G e a) λb=>ncW h b:=rfl
@[simp]def X1 (d f:ah) (b:ak) (c:Int) (a:T):tc d f (.int b c) a=true:=id rfl
@[simp]def XZ (c d:ah) (b:List Nat) (a:T):tc c d (.str b) a=true:=id rfl
@[simp]def Vz (c d:ah) (b:Bool) (a:T):tc c d (.bool b) a=true:=id rfl
@[simp]def X2 (c d:ah) (b:List T) (a:T):tc c d (.agg b) a=true:=id rfl
@[simp]def X0 (g i:ah) (b c d f:Nat) (a:T):tc g i (.ptr b c d f) a=true:=id rfl
@[simp]def Vx (d f:ah) (c:aj) (b:List T) (a:T):tc d f (.func c b) a=true:=id rfl
@[simp]def Vw (b c:ah) (a:T):tc b c .kj a=true:=id rfl
@[simp]def aff (g j:ab) (c d:ah):iT (.binOp .eql g c d j) cx G e h=M (cx.ty g) λi=>M (fq cx G e c) λa=>M (fq cx G e d) λb=>fQ (tc c d a b) (M (Mq cx i a b) λf=>some (.val (.bool f) h)):=by
 show(M (cx.ty g) λi=>M (fq cx G e c) λa=>M (fq cx G e d) λb=>fQ (tc c d a b) (M (Mq cx i a b) λf=>val h (wG f)))=_;simp
@[simp]def ae6 (g j:ab) (c d:ah):iT (.binOp .neq g c d j) cx G e h=M (cx.ty g) λi=>M (fq cx G e c) λa=>M (fq cx G e d) λb=>fQ (tc c d a b) (M (Mq cx i a b) λf=>some (.val (.bool !f) h)):=by
 show(M (cx.ty g) λi=>M (fq cx G e c) λa=>M (fq cx G e d) λb=>fQ (tc c d a b) (M (Mq cx i a b) λf=>val h (wG (!f))))=_;simp
@[simp]def ac9 (d:Ty) (a:ak) (b c:Int) (f:d.u= .int a):Mq cx d (.int a b) (.int a c)=some (decide (b=c)):=by unfold Mq;rw[f];simp
@[simp]def ac8 (c:Ty) (a b:List Nat) (d:c.u= .str):Mq cx c (.str a) (.str b)=some (decide (a=b)):=by unfold Mq;rw[d];simp
@[simp]def abC (c:Ty) (a b:Bool) (d:c.u= .bool):Mq cx c (.bool a) (.bool b)=some (a==b):=by unfold Mq;rw[d];simp
def wN(c:BinOp)(d f:aa T)(h:H):aa kC:=M d λa=>M f λb=>val h (binop c a b)
@[simp]theorem abh (c:BinOp) (a b:T):wN c (some a) (some b) h=val h (binop c a b):=rfl
@[simp]theorem afh (c d:ab) (a b:ah):iT (.binOp .add c a b d) cx G e h=wN .add (fq cx G e a) (fq cx G e b) h:=rfl
@[simp]theorem ae3 (c d:ab) (a b:ah):iT (.binOp .sub c a b d) cx G e h=wN .sub (fq cx G e a) (fq cx G e b) h:=rfl
@[simp]theorem ae7 (c d:ab) (a b:ah):iT (.binOp .mul c a b d) cx G e h=wN .mul (fq cx G e a) (fq cx G e b) h:=rfl
@[simp]theorem ae5 (c d:ab) (a b:ah):iT (.binOp .quo c a b d) cx G e h=wN .quo (fq cx G e a) (fq cx G e b) h:=rfl
@[simp]theorem ae4 (c d:ab) (a b:ah):iT (.binOp .rem c a b d) cx G e h=wN .rem (fq cx G e a) (fq cx G e b) h:=rfl
@[simp]theorem afa (c d:ab) (a b:ah):iT (.binOp .lss c a b d) cx G e h=wN .lss (fq cx G e a) (fq cx G e b) h:=rfl
@[simp]theorem afb (c d:ab) (a b:ah):iT (.binOp .leq c a b d) cx G e h=wN .leq (fq cx G e a) (fq cx G e b) h:=rfl
@[simp]theorem afd (c d:ab) (a b:ah):iT (.binOp .gtr c a b d) cx G e h=wN .gtr (fq cx G e a) (fq cx G e b) h:=rfl
@[simp]theorem afe (c d:ab) (a b:ah):iT (.binOp .geq c a b d) cx G e h=wN .geq (fq cx G e a) (fq cx G e b) h:=rfl
@[simp]theorem agz (a:UnOp) (d:ab) (b:ah):iT (.unOp a d b) cx G e h=M (fq cx G e b) λc=>val h (unop a c):=rfl
@[simp]theorem Q5 (c:ab) (a:ah) (b:Nat):iT (.fieldAddr c a b) cx G e h=M (wt cx c b) λd=>M (fq cx G e a) λa=>faV d.1 h a:=rfl
@[simp]def Wa (c:ab) (a:Nat):wt cx c a=M (cx.ty c) λd=>(match d.u with| .struct b=>b[a]? |_=>none):=by
 show(M (cx.ty c) λd=>match d.u with| .struct b=>lF b a|_=>none)=_;simp
def fdW(h:H)(off:Nat)(c:Ty)(d:T):aa kC:=match d with| .agg a=>M (jB off a) λb=>val h (j4 c b)|_=>none
@[simp]theorem ac6 (off:Nat) (b:Ty) (a:List T):fdW h off b (.agg a)=M (jB off a) λc=>val h (j4 b c):=rfl
@[simp]theorem aax (d:ab) (a:ah) (b:Nat):iT (.field d a b) cx G e h=M (wt cx d b) λc=>M (cx.ty c.2) λf=>M (fq cx G e a) λa=>fdW h c.1 f a:=rfl
@[simp]theorem Yu {d:Type} (c:d) (b:List d) (a:Nat) [NeZero a]:jB (no_index (OfNat.ofNat a)) (c::b)=jB (a-1) b:=by
 have⟨g,f⟩:=Nat.exists_eq_succ_of_ne_zero (NeZero.ne a);show jB a (c::b)=_;rw[f];rfl
@[simp]theorem Xv {d:Type} (c:d) (b:List d) (a:Nat) [NeZero a]:takeN (no_index (OfNat.ofNat a)) (c::b)=M (takeN (a-1) b) λg=>some (c::g):=by
 have⟨i,f⟩:=Nat.exists_eq_succ_of_ne_zero (NeZero.ne a);show takeN a (c::b)=_;rw[f];rfl
def ixW(cx:Ctx)(h:H)(g:Ty)(d:T)(c:Nat):aa kC:=match g.u with
 | .slice a=>M (cx.ty a) λb=>kw h b d c
 | .array f a=>M (cx.ty a) λb=>oc h f b d c
 |_=>none
@[simp]theorem afD (f:Ty) (d:T) (b:Nat):ixW cx h f d b=(match f.u with
 | .slice a=>M (cx.ty a) λc=>kw h c d b
 | .array g a=>M (cx.ty a) λc=>oc h g c d b
 |_=>none):=rfl
@[simp]theorem Q4 (c:ab) (b a:ah):iT (.indexAddr c b a) cx G e h=M (cx.ty c) λf=>M (fq cx G e b) λb=>M (fq cx G e a) λa=>M (mZ a) λd=>ixW cx h f b d:=rfl
@[simp]def Yh (d:Ty) (b:List T) (f:Bool) (c:Nat):kw h d (.Y b f) c=M (b[c]?) λa=>fQ (decide (a.cells.length=d.size)) (some (.val (.jh a.cells) h)):=by
 show(M (lF b c) λa=>fQ (Nat.beq (kv a.cells) d.size) (some (kC.val (.jh a.cells) h)))=_;simp
@[simp]def OJ (i:Ty) (a c g f:Nat) (j:Bool) (d:Nat):kw h i (.arr a c g f j) d=fQ (decide (d<f)) (M (h.get a) λb=>fQ (decide (b.sz=i.size))<|fQ (decide (b.ep=c)) (some (.val (.ptr a c (g+d) 0) h))):=by
 show(fQ (Nat.blt d f) (M (h.get a) λb=>fQ (Nat.beq b.sz i.size)<|fQ (Nat.beq b.ep c) (M (fU (Nat.add g d)) λk=>some (kC.val (.ptr a c k 0) h))))=_;simp
def icW(cx:Ctx)(h:H)(l:Ty)(c:T)(a:Nat):aa kC:=match l.u with
 | .str=>(match c with| .str k=>M (k[a]?) λd=>some (.val (.int .u8 d) h)|_=>none)
 | .array i g=>(match c with
  | .agg f=>M (cx.ty g) λb=>fQ (decide (a<i)) (M (jB (a*b.size) f) λj=>val h (j4 b j))
  |_=>none)
 |_=>none
@[simp]theorem afE (d:Ty) (b:T) (a:Nat):icW cx h d b a=(match d.u with
 | .str=>(match b with| .str l=>M (l[a]?) λf=>some (.val (.int .u8 f) h)|_=>none)
 | .array j i=>(match b with
  | .agg g=>M (cx.ty i) λc=>fQ (decide (a<j)) (M (jB (a*c.size) g) λk=>val h (j4 c k))
  |_=>none)
 |_=>none):=rfl
@[simp]theorem aaw (d:ab) (a b:ah):iT (.index d a b) cx G e h=M (cx.ty d) λf=>M (fq cx G e a) λa=>M (fq cx G e b) λb=>M (mZ b) λc=>icW cx h f a c:=by
 show(M (cx.ty d) λf=>M (fq cx G e a) λa=>M (fq cx G e b) λb=>M (mZ b) λc=>match f.u with
  | .str=>(match a with| .str n=>M (lF n c) λi=>val h (some (.int .u8 (.ofNat i)))|_=>none)
  | .array l k=>(match a with
   | .agg j=>M (cx.ty k) λg=>fQ (Nat.blt c l) (M (jB (Nat.mul c g.size) j) λm=>val h (j4 g m))
   |_=>none)
  |_=>none)=_
 simp only[ky,RV,xP];rfl
@[simp]theorem Vt (b:ah) (a:Nat):iT (.extract b a) cx G e h=M (fq cx G e b) λc=>exV h c a:=rfl
@[simp]def aaz (b:aj) (a:List ah) (f:af ab):iT (.call ⟨.value (.func b),a.toArray,f⟩) cx G e h=M (fG (fq cx G e) a) λc=>some (.call b c):=by
 show(M (py cx G e a) λa=>M (some (T.func b [])) λg=>match g with
  | .func b d=>M (AV a d) λc=>some (kC.call b c)
  |_=>none)=_
 simp
def abK(c:List T)(d:T):aa kC:=match d with| .func b a=>some (.call b (c++a))|_=>none
@[simp]theorem Yy (c:List T) (b:aj) (a:List T):abK c (.func b a)=some (.call b (c++a)):=rfl
@[simp]theorem aay (c:Tmp) (a:List ah) (i:af ab):iT (.call ⟨.value (.tmp c),a.toArray,i⟩) cx G e h=M (fG (fq cx G e) a) λb=>M (fq cx G e (.tmp c)) λd=>abK b d:=by
 show(M (py cx G e a) λa=>M (fq cx G e (.tmp c)) λd=>match d with
  | .func g f=>M (AV a f) λb=>some (kC.call g b)
  |_=>none)=_
 simp only[F8,pf,dS];rfl
@[simp]theorem afc (a:List ah) (b:ab):iT (.call ⟨.builtin .len,a.toArray,#[b]⟩) cx G e h=M (fG (fq cx G e) a) λc=>(match c with| [d]=>L9 cx h [b] d|_=>none):=rfl
def Dk(cx:Ctx)(h:H)(g:Ty)(a:T):aa kC:=match g.u with
 | .str=>(match a with| .str f=>some (.val (.int .i64 f.length) h)|_=>none)
 | .slice _=>(match a with
  | .Y b _=>some (.val (.int .i64 b.length) h)
  | .fK=>some (.val (.int .i64 0) h)
  | .arr _ _ _ c _=>some (.val (.int .i64 c) h)
  |_=>none)
 | .array d _=>some (.val (.int .i64 d) h)
 |_=>none
def A6(b:Ty)(a:T):Dk cx h b a=(match b.u with
 | .str=>(match a with| .str g=>some (.val (.int .i64 g.length) h)|_=>none)
 | .slice _=>(match a with
  | .Y c _=>some (.val (.int .i64 c.length) h)
  | .fK=>some (.val (.int .i64 0) h)
  | .arr _ _ _ d _=>some (.val (.int .i64 d) h)
  |_=>none)
 | .array f _=>some (.val (.int .i64 f) h)
 |_=>none):=rfl
@[simp]def aaQ (b:Ty) (a:List Nat) (c:b.u= .str):Dk cx h b (.str a)=some (.val (.int .i64 a.length) h):=by rw[A6,c]
@[simp]def X8 (b:Ty) (a:List T) (c:Bool) (f:ab) (d:b.u= .slice f):Dk cx h b (.Y a c)=some (.val (.int .i64 a.length) h):=by rw[A6,d]
@[simp]def X7 (a:Ty) (c:ab) (b:a.u= .slice c):Dk cx h a .fK=some (.val (.int .i64 0) h):=by rw[A6,b]
@[simp]def aaR (b:Ty) (c d i a:Nat) (f:Bool) (j:ab) (g:b.u= .slice j):Dk cx h b (.arr c d i a f)=some (.val (.int .i64 a) h):=by rw[A6,g]
@[simp]def ad8 (a:ab) (c:T):L9 cx h [a] c=M (cx.ty a) λb=>Dk cx h b c:=by
 show(M (lF [a] 0) λa=>M (cx.ty a) λb=>_)=_;simp only[ky,List.getElem?_cons_zero,dS];congr 1;funext b;unfold Dk;cases b.u<;>first|rfl|(cases c<;>first|rfl|(simp;try rfl))
@[simp]theorem ae8 (a:List ah) (b:af ab):iT (.call ⟨.builtin .min,a.toArray,b⟩) cx G e h=M (fG (fq cx G e) a) λc=>kR .min cx h b.toList c:=rfl
@[simp]theorem ae9 (a:List ah) (b:af ab):iT (.call ⟨.builtin .max,a.toArray,b⟩) cx G e h=M (fG (fq cx G e) a) λc=>kR .max cx h b.toList c:=rfl
@[simp]def afj (f:List ab) (a:ak) (b c:Int):kR .min cx h f [.int a b,.int a c]=some (.val (.int a (min b c)) h):=by
 show val h (fQ (C7 a a) (xe a (@Bool.rec (λ_=>Int) b c (J2 c b))))=_;rw[qT,il,nV,wg];simp only[xP,ar,kC.val.injEq,T.int.injEq,true_and,and_true];by_cases d:c<b
 ·rw[aR d];grind
 ·rw[aK d];grind
@[simp]def afk (f:List ab) (a:ak) (b c:Int):kR .max cx h f [.int a b,.int a c]=some (.val (.int a (max b c)) h):=by
 show val h (fQ (C7 a a) (xe a (@Bool.rec (λ_=>Int) b c (J2 b c))))=_;rw[qT,il,nV,wg];simp only[xP,ar,kC.val.injEq,T.int.injEq,true_and,and_true];by_cases d:b<c
 ·rw[aR d];grind
 ·rw[aK d];grind
end
end
section
abbrev hE:H:=⟨0,0,[]⟩
structure C4(P:ai)(cx:Ctx)(f:aj)(fn:Func)(G:Nat)(dl:DL):Prop where
 at_:P.funcs[f]? =some fn
 ok:wM ⟨fn,G,false,none⟩=true
 dr:mv dl (fn.body.getD .skip)=true
def mp(a:fH):Nat->List T->Prop
 |_,[]=>True
 |i,b::c=>dG a i=some b/\mp a (i+1) c
@[simp]theorem Xq (b:fH) (a:Nat):mp b a []=True:=rfl
@[simp]theorem UB (b:fH) (a:Nat) (c:T) (d:List T):mp b a (c::d)=(dG b a=some c/\mp b (a+1) d):=rfl
def md(G:Nat):∀(d a:Nat) (f:List T),f.length<=d->∃b,lV G d a f=some b/\(∀c,c<a->dG b c=none)/\mp b a f:=by
 intro d;induction d with
 |zero=>
  intro a f hl;have:f=[]:=aS B;subst this;exact⟨.nil,rfl,λ_ _=>rfl,trivial⟩
 |succ d q=>
  intro a f hl;have s:∀(e:List T) (b:fH) (c:Nat) (l:T) (g:Nat),c<g->mp b g e->mp (.cons c l b) g e:=by
   intro e;induction e with
   |nil=>simp
   |cons k e r=>
    intro b c l g t o;exact⟨by rw[lN,ao B];exact o.1,r b c l (g+1) B o.2⟩
  cases f with
  |nil=>
   have⟨b,i,m,n⟩:=q (a+1) [] J;show∃b,(M (fU (Nat.succ a)) λj=> @Bool.rec (λ_=>aa fH) (lV G d j []) (M (lV G d j []) λh=>some (.cons a .undef h)) (jX G a))=some b/\_;rw[gX,dS];cases jX G a with
   |false=>exact⟨b,i,λc p=>m c B,trivial⟩
   |true=>
    refine⟨.cons a .undef b,?_,λc p=>?_,trivial⟩
    ·show(M (lV G d (a+1) []) λh=>some (fH.cons a .undef h))=_;rw[i];rfl
    ·rw[lN,ao B];grind
  |cons k e=>
   have⟨b,i,m,n⟩:=q (a+1) e (by grind);refine⟨.cons a k b,?_,λc p=>?_,?_,s _ _ _ _ _ B n⟩
   ·show(M (fU (Nat.succ a)) λj=>M (lV G d j e) λh=>some (fH.cons a k h))=_;rw[gX,dS,i];rfl
   ·rw[lN,ao B];grind
   simp
def Ai(cx:Ctx)(G:Nat)(d:List ResultVar)(e:fH)(b:H)(c:List T->Prop):Prop:=∃a,kF cx G ⟨e,.nil⟩ b d=some a/\c a
section
variable {P:ai}{cx:Ctx}{cf:iH}{G:Nat}
@[simp]def ab2 (e:fH) (c:H) (b:List T->Prop):Ai cx G [] e c b=b []:=by
 apply propext;constructor
 ·rintro⟨d,hl,a⟩;have hl:some []=some d:=hl
  grind
 ·exact λa=>⟨[],rfl,a⟩
def WV(c:aa T)(b:T->Prop):Prop:=∃a,c=some a/\b a
@[simp]def aeg (b:T) (d:T->Prop):WV (some b) d=d b:=by
 apply propext;constructor
 ·rintro⟨e,c,a⟩;simp only[ar]at c;subst c;exact a
 ·exact λa=>⟨b,rfl,a⟩
def En(e:ResultVar)(f:List ResultVar)(a:fH)(b:H)(d:List T->Prop):Ai cx G (e::f) a b d=
 WV (ResultVar.casesOn e (λc=>Env.get G ⟨a,.nil⟩ c) (λg c=>M (Env.get G ⟨a,.nil⟩ g) λi=>M (cx.ty c) λj=>b.load j i)) λk=>Ai cx G f a b λh=>d (k::h):=by
 grind [kF,WV,Ai,jp,ar,dB,dS]
@[simp]def ab1 (e:Tmp) (d:List ResultVar) (a:fH) (b:H) (c:List T->Prop):Ai cx G (.tmp e::d) a b c=WV (Env.get G ⟨a,.nil⟩ e) λg=>Ai cx G d a b λf=>c (g::f):=En _ d a b c
@[simp]def YO (e:Tmp) (f:ab) (d:List ResultVar) (b:fH) (a:H) (c:List T->Prop):Ai cx G (.cell e f::d) b a c=WV (M (Env.get G ⟨b,.nil⟩ e) λh=>M (cx.ty f) λi=>a.load i h) λj=>Ai cx G d b a λg=>c (j::g):=En _ d b a c
def yw(cx:Ctx)(G:Nat)(e:List ResultVar)(d:List T->H->Prop):iq:=
 ⟨λb a=>Ai cx G e b.vars a λc=>d c a,λ_ _ _=>False,λb a=>Ai cx G e b.vars a λc=>d c a⟩
@[simp]theorem afC (d:List ResultVar) (c:List T->H->Prop) (b:Env) (a:H):(yw cx G d c).n b a=Ai cx G d b.vars a λe=>c e a:=rfl
@[simp]theorem afB (d:List ResultVar) (c:List T->H->Prop) (b:Env) (a:H):(yw cx G d c).r b a=Ai cx G d b.vars a λe=>c e a:=rfl
@[simp]theorem afA (e:List ResultVar) (d:List T->H->Prop) (c:Nat) (a:Env) (b:H):(yw cx G e d).x c a b=False:=rfl
def CZ{g:Out}{h:List ResultVar}{f:List T->H->Prop}(i:W g (yw cx G h f)):∃c b a,g=some (c,b,a)/\(c= .normal\/c= .ret)/\Ai cx G h b.vars a λj=>f j a:=by
 obtain⟨c,b,a,d,e⟩:=i;cases c with
 |normal=>exact⟨_,b,a,d,.inl rfl,e⟩
 |exit k=>simp_all
 |ret=>exact⟨_,b,a,d,.inr rfl,e⟩
def nU{i:List ResultVar}{a:Env}{f:H}{j:List T}(hl:kF cx G ⟨a.vars,.nil⟩ f i=some j):kF cx G a f i=some j:=by
 unfold kF at*
 induction i generalizing j with
 |nil=>exact hl
 |cons l i r=>
  rw[jp]at hl|-;have⟨d,g,hl⟩:=dB.1 hl;have⟨s,p,hl⟩:=dB.1 hl;simp only[ar]at hl;subst hl;have m:∀k d,Env.get G ⟨a.vars,.nil⟩ k=some d->Env.get G a k=some d:=by
   intro k d o;obtain⟨u,t⟩:=a;rw[A8]at o|-;simp_all[aq,D4]
  have q:(@ResultVar.rec (λ_=>aa T) (λc=>Env.get G a c) (λe c=>M (Env.get G a e) λb=>M (cx.ty c) λh=>f.load h b) l)=some d:=by
   cases l with
   |tmp c=>grind
   |cell e c=>
    have g:(M (Env.get G ⟨a.vars,.nil⟩ e) λb=>M (cx.ty c) λh=>f.load h b)=some d:=g;have⟨b,n,g⟩:=dB.1 g;show(M (Env.get G a e) λb=>M (cx.ty c) λh=>f.load h b)=some d;rw[m e b n];exact g
  grind
end
def PR{l:Env->H->Out}(e:Nat)(g:Nat->fH->H->Prop){k:iq}
 (p:∀a d b,a<=e->g a d b->W (l ⟨d,.nil⟩ b) (xn (λc b=>c.tmps= .nil/\a<e/\g (a+1) c.vars b) k)) {j:Nat} (r:e<j) {a:Nat} (i:a<=e) {d:fH} {b:H} (h:g a d b):W (nI l j ⟨d,.nil⟩ b) k:=by
 refine PP (σ:=Nat) (I:=λa c b=>a<=e/\c.tmps= .nil/\g a c.vars b) (m:=λa=>e-a) ?_ j a _ _ B ⟨i,rfl,h⟩;rintro a ⟨d,t⟩ b ⟨i,ht,h⟩;simp only at ht h;subst ht;have⟨n,c,o,q,f⟩:=p a d b i h;refine⟨n,c,o,q,?_⟩;cases n with
 |normal=>exact⟨a+1,by have:=f.2.1;omega,by have:=f.2.1;omega,f.1,f.2.2⟩
 |exit s=>exact f
 |ret=>exact f
@[simp]def agY:Hp hE=True:=by simp[Hp]
@[simp]def ab8 (b:H) (c:iI):Hp (b.cons c)=Hp b:=by
 apply propext;constructor
 ·intro a;unfold Hp at*;simp[H.cons]at a;exact a
 ·exact λa=>Se a c
end
section
mutual
def cn:T->T
 | .Y b c=>(match b with| []=> .fK|e::b=> .Y (Wy (e::b)) false)
 | .agg a=> .agg (Wy a)
 | .tuple a=> .tuple (Wy a)
 |v=>v
def Wy:List T->List T
 | []=>[]
 |x::a=>cn x::Wy a
end
def Fg:∀a:List T,Wy a=a.map cn
 | []=>by rw[Wy];rfl
 |x::b=>by rw[Wy,Fg b];rfl
def mP(a:List T)(b:Bool):cn (.Y a b)=sl (a.map cn):=by
 cases a with
 |nil=>rw[cn];rfl
 |cons c a=>rw[cn,Fg];rfl
def uk(a:List T):cn (.agg a)= .agg (a.map cn):=by rw[cn,Fg]
def tN(a:List T):cn (.tuple a)= .tuple (a.map cn):=by rw[cn,Fg]
@[simp]def O7:cn .undef= .undef:=by simp[cn]
@[simp]def Kq (a:Bool):cn (.bool a)=(.bool a):=by simp[cn]
@[simp]def Ff (a:ak) (b:Int):cn (.int a b)=(.int a b):=by simp[cn]
@[simp]def Fe (a:List Nat):cn (.str a)=(.str a):=by simp[cn]
@[simp]def Km:cn .jQ= .jQ:=by simp[cn]
@[simp]def Wv (a b c d:Nat):cn (.ptr a b c d)=(.ptr a b c d):=by simp[cn]
@[simp]def Kk (a:List T):cn (.jh a)=(.jh a):=by simp[cn]
@[simp]def Hj:cn .fK= .fK:=by simp[cn]
@[simp]def Wx (a b e d:Nat) (c:Bool):cn (.arr a b e d c)=(.arr a b e d c):=by simp[cn]
@[simp]def RI (b:aj) (a:List T):cn (.func b a)=(.func b a):=by simp[cn]
@[simp]def Ko:cn .kj= .kj:=by simp[cn]
@[simp]def Kn:cn .kq= .kq:=by simp[cn]
@[simp]def O9 (a:ab) (b:T):cn (.iface a b)=(.iface a b):=by simp[cn]
@[simp]def RH (a:Nat):cn (.iter a)=(.iter a):=by simp[cn]
@[simp]def Ww (a:Nat):cn (.map a)=(.map a):=by simp[cn]
@[simp]def RG:cn .mw= .mw:=by simp[cn]
def Eh(a:T):(cn a).scalar=a.scalar:=by
 cases a with
 |Y c d=>rw[mP];cases c<;>rfl
 |agg b=>rw[uk];rfl
 |tuple b=>rw[tN];rfl
 |_=>simp
theorem Hk(a:T):(cn a).cells=a.cells.map cn:=by
 cases a with
 |Y c d=>rw[mP];cases c<;>(show [_]=[_];rw[mP])
 |agg b=>rw[uk];rfl
 |tuple b=>rw[tN];show [_]=[_];rw[tN]
 |_=>simp[T.cells]
def RJ(a:List T):eY (a.map cn)=(eY a).map cn:=by
 induction a with
 |nil=>rfl
 |cons b a c=>
  grind [eY,Hk]
def j9.cn{a:T}(b:j9 a):j9 (cn a):=by
 induction b with
 |Y d l _ g=>
  rw[mP];cases d with
  |nil=>exact .fK
  |cons k d=>
   exact .Y _ _ (λa f=>by
    grind)
 |agg c _ g=>
  rw[uk];exact .agg _ (λa f=>by
   grind)
 |jh c b=>rw[Kk];exact .jh c b
 |bool e=>rw[Kq];exact .bool e
 |int h i=>rw[Ff];exact .int h i
 |str j=>rw[Fe];exact .str j
 |jQ=>rw[Km];exact .jQ
 |fK=>rw[Hj];exact .fK
 |kj=>rw[Ko];exact .kj
 |kq=>rw[Kn];exact .kq
def eK.cn{hp:af Obj}{μ:Mu}{b:T}{o:am}(a:eK hp μ b o):eK hp μ (cn b) o:=by
 induction a with
 |mX u c=>rw[mP];exact .fK c 0
 |Y i j u r off s Q arr n fz x w hl R S h l hr m=>
  rw[mP];show eK hp μ (.Y (Go.TI.cn i::j.map Go.TI.cn) false) _;have C:eY (Go.TI.cn i::j.map Go.TI.cn)=(eY (i::j)).map Go.TI.cn:=RJ (i::j);have:=eK.Y (hp:=hp) (μ:=μ) (Go.TI.cn i) (j.map Go.TI.cn) false r off s Q arr n fz x w (by grind) J (λb e=>?_) ?_ ?_ ?_
  ·grind
  ·have e:b∈(i::j).map Go.TI.cn:=e;obtain⟨q,p,rfl⟩:=List.mem_map.1 e;rw[Hk,aG];grind
  ·rw[C,aG];exact h
  ·intro b e;rw[C]at e;obtain⟨q,p,rfl⟩:=List.mem_map.1 e;exact⟨by rw[Eh];exact(l q p).1,(l q p).2.cn⟩
  grind
 |agg A k h l hr m=>
  rw[uk];refine .agg _ k (by grind) (λb e=>?_) λz b E=>?_
  ·obtain⟨q,p,rfl⟩:=List.mem_map.1 e;rw[Eh];grind
  grind
 |tuple U k h hr m=>
  rw[tN];refine .tuple _ k (by grind) λz b E=>?_;rw[aQ]at E
  grind
 |jh A r off arr n fz x w h l hr m=>rw[Kk];exact .jh A r off arr n fz x w h l hr
 |undef=>rw[O7];exact .undef
 |bool d=>rw[Kq];exact .bool d
 |int z M=>rw[Ff];exact .int z M
 |str O a=>rw[Fe];exact .str O a
 |jQ=>rw[Km];exact .jQ
 |ptr d t y K f c g v I=>rw[Wv];exact .ptr d t y K f c g v I
 |fK c s=>rw[Hj];exact .fK c s
 |arr d t N L u f c G g v hl a=>rw[Wx];exact .arr d t N L u f c G g v hl a
 |func H F k h hr m=>rw[RI];exact .func H F k h hr
 |kj=>rw[Ko];exact .kj
 |kq=>rw[Kn];exact .kq
 |iface n b o a m=>rw[O9];exact .iface n b o a
 |iter d f c g a=>rw[RH];exact .iter d f c g a
 |map d f y g a=>rw[Ww];exact .map d f y g a
 |mw=>rw[RG];exact .mw
def fX.cn{f:af Obj}{h:Mu}{c:List T}{d:List am}(e:fX f h c d):fX f h (c.map Go.TI.cn) d:=by
 refine⟨by simpa using e.1,λg j a=>?_⟩;rw[aQ]at a;cases b:c[g]? with
 |none=>rw[b]at a;grind
 |some i=>rw[b]at a;simp at a;subst a;exact(e.2 g i b).cn
mutual
def lL:T->Bool
 | .bool _| .int _ _| .str _| .jQ| .kj| .kq| .mw| .fK=>true
 | .agg a=>nW a
 | .tuple a=>nW a
 |_=>false
def nW:List T->Bool
 | []=>true
 |x::a=>lL x&&nW a
end
def Av{a:List T}(c:nW a=true):∀b∈a,lL b=true:=by
 induction a with
 |nil=>simp
 |cons f a e=>
  intro b d;rw[nW,az]at c
  grind
def eK.plain{n o:af Obj}{r s:Mu}{a:T}{i:am}(f:eK n r a i)(c:lL a=true):eK o s a i:=by
 induction f with
 |bool k=>exact .bool k
 |int d p=>exact .int d p
 |str q f=>exact .str q f
 |jQ=>exact .jQ
 |kj=>exact .kj
 |kq=>exact .kq
 |mw=>exact .mw
 |fK j l=>exact .fK j l
 |agg t e g m hr h=>
  rw[lL]at c;exact .agg _ e g m λd a b=>h d a b (Av c a (ax b))
 |tuple u e g hr h=>
  rw[lL]at c;exact .tuple _ e g λd a b=>h d a b (Av c a (ax b))
 |_=>simp[lL]at c
section
variable {P:ai}{cx:Ctx}
def Mh{b:Mu}{a:Nat}:mR (lZ 0 b) a↔b.mt a:=by
 constructor
 ·rintro(⟨e,d,c,_⟩|hr)
  ·exact absurd (jT c).1 B
  ·exact hr
 ·exact λhr=> .inr hr
def K6{z:aj}{o k:List T}{w:T}{s:H}(I:kH P cx z (k.map cn) w)(u:fG (j7 s 0) o=some k)(hr:lL w=true):oU P cx ⟨z,o,s,w,s⟩:=by
 intro ae d f x b C;have G:fX d.heap (lZ 0 f) k x.toList:=by
  have A:ir (λj W=>∀p,eK d.heap f j p->eK d.heap (lZ 0 f) W p) o k:=ir.map (λn m y R p K=>pQ b K R) u;refine⟨by rw[<-A.length];exact C.1,λS j M=>?_⟩;have⟨n,m,u⟩:=A.get M;exact u _ (C.2 S n m)
 have V:St cx d.heap.size d.heap (lZ 0 f) hE:=by
  refine⟨rfl,au _,λh e c=>absurd (jT c).1 B,λh Y e X c=>absurd (jT c).1 B,λh e c=>absurd (jT c).1 B,λh e c=>absurd (jT c).1 B,λa hr=>b.pY a hr,λr q v=>?_⟩;have:=b.yA r q v;refine this.cut ?_;have⟨_,_,_,_,_,_,_,_,_,O,_⟩:=this.lx;exact .jh _ λj Q=>(O j Q).2.low 0
 refine(I d.heap.size d (lZ 0 f) x hE V G.cn).mono λj F ⟨⟨av,U,al,g,an⟩,ap⟩=>?_;have E:∀a,a<d.heap.size->¬f.mt a->F.heap[a]? =d.heap[a]? :=λa i l=>(g.ext.mV a i λL=>l (Mh.1 L)).1;have t:Ext d.heap f F.heap f:=by
  refine⟨g.ext.size,λa i l=>⟨E a i λhr=>l (.inr hr),l⟩,λh e c=>⟨e,c,.inl rfl⟩,rfl,λa i hr=>g.ext.kept a i hr⟩
 refine⟨⟨f,U.plain hr,⟨b.wf,aO b.fit g.ext.size,λh e c=>?_,b.inj,b.low,b.apart,λa hr=>bp (b.pY a hr) g.ext.size,λr q v=>(b.yA r q v).ext t⟩,⟨t,g.os,g.tape,g.output⟩,xJ.refl _ _⟩,kJ.refl b.wf⟩;have⟨n,m,N⟩:=b.box h e c;exact⟨n,m,N.ext t (E e.iE (b.lt c) (b.apart h e c))⟩
def K5{c:aj}{b:List T}{d:T}{a:H}(h:kH P cx c (b.map cn) d):oU P cx ⟨c,b,a,d,a⟩:=
 λe j k f i g=>h e j k f a i g.cn
structure ge where
 α:Type
 A:α->List T
 pre:α->Prop
 R:α->T
 inj:∀a b,A a=A b->R a=R b
structure kI where
 pre:List T->H->Prop
 post:List T->H->T->H->Prop
structure fw where
 p:aj->aa ge
 h:aj->aa kI
open Classical in
def rl(P:ai)(cx:Ctx)(f:fw)(d:aj)(c:List T):aa T:=match f.p d with
 |none=>none
 |some a=>if e:∃b,a.pre b/\a.A b=c/\kH P cx d c (a.R b)then some (a.R e.choose)else none
open Classical in
def hl(P:ai)(cx:Ctx)(g:fw)(c:aj)(b:List T)(d:H):aa (T×H):=match g.h c with
 |none=>none
 |some e=>if f:∃a:T×H,e.post b d a.1 a.2/\oU P cx ⟨c,b,d,a.1,a.2⟩then some f.choose else none
def wn(h:H)(d:Nat)(v:T):aa T:=M (freeze h 0 d v) λv=>some (cn v)
def fz(b:H)(a:T):aa T:=M (iu b 0 a) λa=>some (cn a)
def qA(b:H)(a:T):aa T:=M (j7 b 0 a) λa=>some (cn a)
def PE(b:H)(a:List T):aa (List T):=fG (qA b) a
mutual
def jJ:T->Bool
 | .bool _| .int _ _| .str _| .jQ| .Y _ _| .fK| .kj| .kq=>true
 | .agg a=>nT a
 |_=>false
def nT:List T->Bool
 | []=>true
 |x::a=>jJ x&&nT a
end
def pK(P:ai)(cx:Ctx)(d:fw):iH:=λc a b=>match PE b a with
 |none=>hl P cx d c a b
 |some f=>match rl P cx d c f with
  |none=>hl P cx d c a b
  |some e=>if(lL e||nT a)=true then some (e,b)else hl P cx d c a b
def qQ{f g j:Type}(b:f->aa g)(d:g->j):∀a:List f,fG (λc=>M (b c) λe=>some (d e)) a=M (fG b a) λi=>some (i.map d):=by
 intro a;induction a with
 |nil=>rfl
 |cons c a h=>
  rw[jp,jp,h];cases b c with
  |none=>rfl
  |some e=>simp only[dS];cases fG b a<;>rfl
def Hx{c:H}{a b:List T}(d:PE c a=some b):∃e,fG (j7 c 0) a=some e/\b=e.map cn:=by
 unfold PE qA at d;rw[qQ]at d
 grind [dB,hl,ar]
mutual
def rY(e:H)(g d:Nat):(b:T)->jJ b=true->(∀c,b≠ .agg c)->freeze e g (d+1) b=some b
 | .bool _,_,_=>rfl
 | .int _ _,_,_=>rfl
 | .str _,_,_=>rfl
 | .jQ,_,_=>rfl
 | .Y _ _,_,_=>rfl
 | .fK,_,_=>rfl
 | .kj,_,_=>rfl
 | .kq,_,_=>rfl
 | .agg c,_,f=>absurd rfl (f c)
 | .undef,a,_=>by grind [jJ]
 | .ptr ..,a,_=>by grind [jJ]
 | .jh _,a,_=>by grind [jJ]
 | .arr ..,a,_=>by grind [jJ]
 | .func ..,a,_=>by grind [jJ]
 | .iface ..,a,_=>by grind [jJ]
 | .iter _,a,_=>by grind [jJ]
 | .map _,a,_=>by grind [jJ]
 | .mw,a,_=>by grind [jJ]
 | .tuple _,a,_=>by grind [jJ]
end
def pR(b:H){a:T}(e:jJ a=true)(d:∀c,a≠ .agg c):iu b 0 a=some a:=by
 have:=rY b 0 11 a e d;cases a<;>first|exact this|rfl
def Bz{a:List T}(c:nT a=true):∀b∈a,jJ b=true:=by
 induction a with
 |nil=>simp
 |cons f a e=>
  intro b d;rw[nT,az]at c
  grind
def PD{b:H}{a d:List T}{base:Nat}{o:af Obj}{t:Mu}{j:List am}(m:fX o t a j)(p:nT a=true)(n:PE b a=some d):d=a.map cn:=by
 obtain⟨v,hl,rfl⟩:=Hx n;have:fG (j7 b 0) a=some a:=by
  refine rS λh e=>?_;have f:=Bz p h e;have⟨w,r⟩:=m.mem e;cases h with
  |agg l=>
   show(M (fG (iu b 0) l) λs=>some (T.agg s))=_;obtain⟨u,rfl,_,q⟩:=r.o8;rw[rS λi g=>pR b (Bz (by rw[jJ]at f;omega) i g) (λk c=>by have:=q i g;rw[c]at this;grind [T.scalar])];rfl
  |_=>exact pR b f (λk c=>by simp at c)
 rw[this]at hl;simp only[ar]at hl;rw[hl]
def FV{e:fw}{c:aj}{b:List T}{d:T}(a:rl P cx e c b=some d):kH P cx c b d:=by
 unfold rl at a;split at a
 ·grind
 ·split at a
  ·grind
  grind
def Cj{h:fw}{c:aj}{b:List T}{d e:H}{f:T}(a:hl P cx h c b d=some (f,e)):oU P cx ⟨c,b,d,f,e⟩:=by
 unfold hl at a;split at a
 ·grind
 ·split at a
  ·rename_i g;simp only[ar]at a;have:=g.choose_spec.2;rw[a]at this;omega
  grind
def CM(P:ai)(cx:Ctx)(j:fw):mU P cx (pK P cx j):=by
 intro m k n q o a base f g d e b;unfold pK at a;split at a
 ·exact Cj a base f g d e b
 ·rename_i l h;split at a
  ·exact Cj a base f g d e b
  ·rename_i r hr;split at a
   ·rename_i c;simp only[ar,aB]at a;obtain⟨rfl,rfl⟩:=a;rw[bM]at c;rcases c with c|c
    ·obtain⟨p,hl,rfl⟩:=Hx h;exact K6 (FV hr) hl c base f g d e b
    ·have i:=PD (base:=base) b c h;subst i;exact K5 (FV hr) base f g d e b
   ·exact Cj a base f g d e b
def ge.Ok(P:ai)(cx:Ctx)(c:aj)(b:ge):Prop:=∀a,b.pre a->kH P cx c (b.A a) (b.R a)
def gG{g:fw}{c:aj}{a:ge}(ht:g.p c=some a)(h:a.Ok P cx c)(b:a.α)(e:a.pre b):rl P cx g c (a.A b)=some (a.R b):=by
 have f:∃d,a.pre d/\a.A d=a.A b/\kH P cx c (a.A b) (a.R d):=⟨b,e,rfl,h b e⟩;unfold rl;rw[ht];simp only;rw[dif_pos f,a.inj _ _ f.choose_spec.2.1]
def kI.Ok(P:ai)(cx:Ctx)(f:aj)(c:kI):Prop:=∀a b,c.pre a b->∃e d,c.post a b e d/\oU P cx ⟨f,a,b,e,d⟩
def D9{tb:fw}{d:aj}{c:kI}(ht:tb.h d=some c)(l:c.Ok P cx d){a:List T}{b:H}(m:c.pre a b):∃i e,hl P cx tb d a b=some (i,e)/\c.post a b i e:=by
 have⟨i,e,j,k⟩:=l a b m;have f:∃g:T×H,c.post a b g.1 g.2/\oU P cx ⟨d,a,b,g.1,g.2⟩:=⟨(i,e),j,k⟩;refine⟨f.choose.1,f.choose.2,?_,f.choose_spec.1⟩;unfold hl;rw[ht];simp only;rw[dif_pos f]
theorem A0{b:fw}{a:aj}(ht:b.p a=none)(c:List T):rl P cx b a c=none:=by unfold rl;rw[ht]
def cfV(e:aa T)(c:Bool)(d:H)(a:aa (T×H)):aa (T×H):=match e with
 |none=>a
 |some b=>if(lL b||c)=true then some (b,d)else a
@[simp]def abL (b:Bool) (c:H) (a:aa (T×H)):cfV none b c a=a:=id rfl
@[simp]def Pc (a:T) (b:Bool) (c:H) (d:aa (T×H)):cfV (some a) b c d=if(lL a||b)=true then some (a,c)else d:=id rfl
def cfW(P:ai)(cx:Ctx)(e:fw)(c:aj)(a:List T)(d:H)(b:aa (List T)):aa (T×H):=match b with
 |none=>hl P cx e c a d
 |some b=>cfV (rl P cx e c b) (nT a) d (hl P cx e c a d)
@[simp]def Pb (d:fw) (b:aj) (a:List T) (c:H):cfW P cx d b a c none=hl P cx d b a c:=id rfl
@[simp]def Pa (d:fw) (b:aj) (a e:List T) (c:H):cfW P cx d b a c (some e)=cfV (rl P cx d b e) (nT a) c (hl P cx d b a c):=id rfl
def Pd(d:fw)(c:aj)(a:List T)(b:H):pK P cx d c a b=cfW P cx d c a b (PE b a):=by
 unfold pK cfW cfV;cases PE b a with
 |none=>rfl
 |some e=>rfl
