/- Texts TiQuick to TiDeep. -/
import Derived.Test.YtmaeadedikngoaaGreatDoorA7
import Derived.KernelRfl
set_option linter.unusedVariables false
set_option linter.unusedSimpArgs false
set_option linter.defProp false
namespace Go.TI
noncomputable section
def Vx(a:Fun):Code:=Option.casesOn a.fn.body .skip λb=>b
section
variable {mask nt:Nat}{K:List Nat}{pre:List T}
end
section
variable {P:List T->Prop}
end
end
noncomputable section
mutual
def xe:T->T->Bool
 | .undef,a=>(match a with| .undef=>true|_=>false)
 | .bool y,a=>(match a with| .bool n=>Bool.casesOn y (!n) n|_=>false)
 | .int o q,a=>(match a with| .int p r=>decide (o=p)&&decide (q=r)|_=>false)
 | .str s,a=>(match a with| .str t=>decide (s=t)|_=>false)
 | .j4,a=>(match a with| .j4=>true|_=>false)
 | .kq,a=>(match a with| .kq=>true|_=>false)
 | .ko,a=>(match a with| .ko=>true|_=>false)
 | .m7,a=>(match a with| .m7=>true|_=>false)
 | .fO,a=>(match a with| .fO=>true|_=>false)
 | .ptr a h j l,b=>(match b with| .ptr d i k m=>Nat.beq a d&&Nat.beq h i&&Nat.beq j k&&Nat.beq l m|_=>false)
 | .arr a h j l g,b=>(match b with| .arr d i k m c=>Nat.beq a d&&Nat.beq h i&&Nat.beq j k&&Nat.beq l m&&Bool.casesOn g (!c) c|_=>false)
 | .map a,b=>(match b with| .map d=>Nat.beq a d|_=>false)
 | .dC e g,b=>(match b with| .dC f c=>Aw e f&&Bool.casesOn g (!c) c|_=>false)
 | .agg e,b=>(match b with| .agg f=>Aw e f|_=>false)
 | .func g e,b=>(match b with| .func c f=>Nat.beq g c&&Aw e f|_=>false)
 | .iface u w,b=>(match b with| .iface v x=>Nat.beq u v&&xe w x|_=>false)
 |_,_=>false
def Aw:List T->List T->Bool
 | [],a=>(match a with| []=>true|_=>false)
 |x::b,a=>(match a with|y::c=>xe x y&&Aw b c|_=>false)
end
def Jd{b a:Bool}(c:(@Bool.rec (λ_=>Bool) (!a) a b)=true):b=a:=by cases b<;>cases a<;>simp_all
mutual
def IW:(h b:T)->xe h b=true->h=b
 | .undef,b,a=>by cases b<;>first|rfl|simp[xe]at a
 | .bool z,b,a=>by
  cases b<;>first|(simp[xe]at a;done)|skip
  rename_i n;have a:(@Bool.rec (λ_=>Bool) (!n) n z)=true:=by unfold xe at a;exact a
  rw[Jd a]
 | .int A B,b,a=>by cases b<;>simp[xe]at a;obtain⟨rfl,rfl⟩:=a;rfl
 | .str C,b,a=>by cases b<;>simp[xe]at a;subst a;rfl
 | .j4,b,a=>by cases b<;>first|rfl|simp[xe]at a
 | .kq,b,a=>by cases b<;>first|rfl|simp[xe]at a
 | .ko,b,a=>by cases b<;>first|rfl|simp[xe]at a
 | .m7,b,a=>by cases b<;>first|rfl|simp[xe]at a
 | .fO,b,a=>by cases b<;>first|rfl|simp[xe]at a
 | .ptr b i j k,c,a=>by cases c<;>simp[xe]at a;obtain⟨⟨⟨rfl,rfl⟩,rfl⟩,rfl⟩:=a;rfl
 | .arr b i j k g,c,a=>by
  cases c<;>first|(simp[xe]at a;done)|skip
  rename_i o p v w f;have a:(Nat.beq b o&&Nat.beq i p&&Nat.beq j v&&Nat.beq k w&& @Bool.rec (λ_=>Bool) (!f) f g)=true:=by unfold xe at a;exact a
  simp only[aB]at a;obtain⟨⟨⟨⟨q,r⟩,s⟩,t⟩,u⟩:=a;rw[aC q,aC r,aC s,aC t,Jd u]
 | .map b,c,a=>by cases c<;>simp[xe]at a;subst a;rfl
 | .dC d g,c,a=>by
  cases c<;>first|(simp[xe]at a;done)|skip
  rename_i e f;have a:(Aw d e&& @Bool.rec (λ_=>Bool) (!f) f g)=true:=by unfold xe at a;exact a
  simp only[aB]at a;rw[AP d e a.1,Jd a.2]
 | .agg d,c,a=>by
  cases c<;>first|(simp[xe]at a;done)|skip
  rename_i e;have a:Aw d e=true:=by unfold xe at a;exact a
  rw[AP d e a]
 | .func g d,c,a=>by
  cases c<;>first|(simp[xe]at a;done)|skip
  rename_i f e;have a:(Nat.beq g f&&Aw d e)=true:=by unfold xe at a;exact a
  simp only[aB]at a;rw[aC a.1,AP d e a.2]
 | .iface x l,c,a=>by
  cases c<;>first|(simp[xe]at a;done)|skip
  rename_i y m;have a:(Nat.beq x y&&xe l m)=true:=by unfold xe at a;exact a
  simp only[aB]at a;rw[aC a.1,IW l m a.2]
 | .je _,b,a=>by simp[xe]at a
 | .iter _,b,a=>by simp[xe]at a
 | .tuple _,b,a=>by simp[xe]at a
def AP:(c b:List T)->Aw c b=true->c=b
 | [],b,a=>by cases b<;>first|rfl|simp[Aw]at a
 |x::d,b,a=>by
  cases b<;>first|(simp[Aw]at a;done)|skip
  rename_i e f;have a:(xe x e&&Aw d f)=true:=by unfold Aw at a;exact a
  simp only[aB]at a;rw[IW x e a.1,AP d f a.2]
end
structure Ent where
 f:Nat
 args:List T
 h:H
 r:T
 h':H
def pP(d:ai)(cx:Ctx)(a:Ent):Prop:=
 ∀e b c (g:af am),St cx e b.heap c a.h->fQ b.heap c a.args g.toList->yv d (pQ cx e b c a.h a.r a.h') ((callFunc a.f g).run d b)
mutual
def mB:T->Bool
 | .undef| .bool _| .int _ _| .str _| .j4| .fO| .kq| .ko| .m7=>true
 | .dC a _=>mh a
 | .agg a=>mh a
 | .tuple a=>mh a
 | .je a=>mh a
 | .func _ a=>mh a
 | .iface _ b=>mB b
 |_=>false
def mh:List T->Bool
 | []=>true
 |x::a=>mB x&&mh a
end
mutual
def BH:(c:T)->mB c=true->oY 0 c
 | .undef,_=> .undef
 | .bool _,_=> .bool _
 | .int _ _,_=> .int _ _
 | .str _,_=> .str _
 | .j4,_=> .j4
 | .fO,_=> .fO
 | .kq,_=> .kq
 | .ko,_=> .ko
 | .m7,_=> .m7
 | .dC b h,a=> .dC _ _ λc f=>by
  obtain⟨d,e,g⟩:=List.mem_flatMap.1 f;exact(ll b (by unfold mB at a;exact a) d e).cells c g
 | .agg b,a=> .agg _ (ll b (by unfold mB at a;exact a))
 | .tuple b,a=> .tuple _ (ll b (by unfold mB at a;exact a))
 | .je b,a=> .je _ (ll b (by unfold mB at a;exact a))
 | .func _ b,a=> .func _ _ (ll b (by unfold mB at a;exact a))
 | .iface _ c,a=> .iface _ _ (BH c (by unfold mB at a;exact a))
 | .ptr _ _ _ _,a=>by simp[mB]at a
 | .arr _ _ _ _ _,a=>by simp[mB]at a
 | .iter _,a=>by simp[mB]at a
 | .map _,a=>by simp[mB]at a
def ll:(d:List T)->mh d=true->∀c∈d,oY 0 c
 | [],_=>λc a=>by simp at a
 |x::g,b=>λc a=>by
  unfold mh at b;rw[aB]at b;have e:=BH x b.1;rcases List.mem_cons.1 a with f|a
  ·rw[f];exact e
  ·exact ll g b.2 c a
end
def fa.move{y:af Obj}{z A:Mu}{b:T}{l:am}(a:fa y z b l)(x:∀n,mN A n->mN z n)(hl:oY 0 b):fa y A b l:=by
 induction a with
 |undef=>exact .undef
 |bool h=>exact .bool h
 |int c J=>exact .int c J
 |str K a=>exact .str K a
 |j4=>exact .j4
 |ptr h D n P o g s G O=>cases hl with|ptr _ _ _ _ a=>omega
 |je r p off arr k fz u t f j hr e=>
  cases hl with|je _ a=>exact .je r p off arr k fz (λc=>u (x _ c)) t f j λc b d=>e c b d (a b (ax d))
 |mV m g=>exact .mV m g
 |dC C E m p off q L arr k fz u t w H I f j hr e=>
  cases hl with|dC _ _ a=>exact .dC C E m p off q L arr k fz (λc=>u (x _ c)) t w H I f j λc b d=>e c b d (a b (ax d))
 |fO g q=>exact .fO g q
 |arr h D R Q m o g N s G w v=>cases hl with|arr _ _ _ _ _ a=>omega
 |func F B i f hr e=>cases hl with|func _ _ a=>exact .func F B i f λc b d=>e c b d (a b (ax d))
 |kq=>exact .kq
 |ko=>exact .ko
 |iface k b l a e=>cases hl with|iface _ _ a=>exact .iface k b l (e a)
 |iter h o g s v=>cases hl with|iter _ a=>omega
 |map h o n s v=>cases hl with|map _ a=>omega
 |m7=>exact .m7
 |agg r i f j hr e=>cases hl with|agg _ a=>exact .agg r i f j λc b d=>e c b d (a b (ax d))
 |tuple M i f hr e=>cases hl with|tuple _ a=>exact .tuple M i f λc b d=>e c b d (a b (ax d))
def kI(d:ai)(cx:Ctx)(h:Nat)(g:List T)(i:T):Prop:=
 ∀e a c (f:af am) (b:H),St cx e a.heap c b->fQ a.heap c g f.toList->yv d (pQ cx e a c b i b) ((callFunc h f).run d a)
def xK{s:ai}{cx:Ctx}{u:Nat}{k:List T}{y:T}(hl:∀i∈k,oY 0 i)(C:pP s cx ⟨u,k,⟨0,0,[]⟩,y,⟨0,0,[]⟩⟩):kI s cx u k y:=by
 intro O h f t P e v;have q:∀b,mN ⟨λ_=>none,mN f⟩ b->mN f b:=by
  rintro b (⟨d,c,a,_⟩|hr)
  ·simp at a
  ·exact hr
 have D:∀b,mN f b->b<h.heap.size:=by
  rintro b (⟨d,c,a,rfl⟩|hr)
  ·exact e.lt a
  ·exact e.pS b hr
 have J:St cx h.heap.size h.heap ⟨λ_=>none,mN f⟩ ⟨0,0,[]⟩:=by
  refine⟨rfl,au _,λd c a=>by simp at a,λd N c M a=>by simp at a,λd c a=>by simp at a,λd c a=>by simp at a,λb hr=>D b hr,λn m p=> ?_⟩;have:=e.x6 n m p;refine this.move q ?_;obtain⟨_,_,_,_,_,_,_,_,_,G,_⟩:=this.lm;exact .je _ λi l=>(G i l).2.low 0
 have A:fQ h.heap ⟨λ_=>none,mN f⟩ k t.toList:=⟨v.1,λr i l=>(v.2 r i l).move q (hl i (ax l))⟩;refine(C h.heap.size h ⟨λ_=>none,mN f⟩ t J A).mono λi z ⟨⟨L,x,I,g,Q⟩,R⟩=> ?_;have F:∀b,mN f b->mN L b:=λb j=> .inr (by rw[g.ext.oD];exact j);have o:Ext h.heap f z.heap f:=by
  refine⟨g.ext.size,λb j w=>⟨(g.ext.mT b j (λr=>w (q b r))).1,w⟩,λd c a=>⟨c,a,.inl rfl⟩,rfl,λb j hr=> ?_⟩;exact g.ext.kept b j (.inr hr)
 have B:∀d c,f d=some c->z.heap[c.iD]? =h.heap[c.iD]? :=λd c a=>g.ext.kept c.iD (e.lt a) (.inl ⟨d,c,a,rfl⟩);refine⟨⟨f,x.move F (x.low λd c a=>I.ej a),⟨e.wf,aS e.fit g.ext.size,λd c a=> ?_,e.inj,e.low,e.apart,λb hr=>bE (e.pS b hr) g.ext.size,λn m p=>(e.x6 n m p).ext o⟩,⟨o,g.os,g.tape,g.output⟩,xu.refl _ _⟩,kE.refl e.wf⟩;obtain⟨K,H,E⟩:=e.box d c a;exact⟨K,H,E.ext o (B d c a)⟩
def Ai:List T->List T->Bool
 | [],a=>(match a with| []=>true|_=>false)
 |x::b,a=>(match a with|y::c=>Ai b c&&xe x y|_=>false)
def Oz:∀(c a:List T),Ai c a=true->c=a:=by
 intro c;induction c with
 |nil=>intro a b;cases a<;>first|rfl|simp[Ai]at b
 |cons f g d=>
  intro a b;cases a with
  |nil=>simp[Ai]at b
  |cons h e=>
   simp only[Ai,aB]at b;rw[IW _ _ b.2,d e b.1]
abbrev uC:=List (Nat×List (List T×T))
def D7(e:List (List T×T))(b:List T):aa T:=
 @List.rec (List T×T) (λ_=>aa T) none (λc _ d=>Prod.casesOn c λa f=> @Bool.rec (λ_=>aa T) d (some f) (Ai b a)) e
def Ah(h:uC)(d:Nat)(b:List T):aa T:=
 @List.rec (Nat×List (List T×T)) (λ_=>aa T) none (λc _ a=>Prod.casesOn c λe f=> @Bool.rec (λ_=>aa T) a (Option.casesOn (D7 f b) a λg=>some g) (Nat.beq d e)) h
inductive xr (P:ai) (cx:Ctx):uC->Prop where
 |nil:xr P cx []
 |new {f:Nat} {t:uC}:xr P cx t->xr P cx ((f,[])::t)
 |ent {f:Nat} {a:List T} {r:T} {l:List (List T×T)} {t:uC}:kI P cx f a r->xr P cx ((f,l)::t)->xr P cx ((f,(a,r)::l)::t)
def xr.mem{g:ai}{cx:Ctx}{h:uC}(c:xr g cx h):∀b d,(b,d)∈h->∀a e,(a,e)∈d->kI g cx b a e:=by
 induction c with
 |nil=>intro b d c;simp at c
 |new _ f=>
  intro b d c a e hr;rcases List.mem_cons.1 c with k|k
  ·simp only[ay]at k;obtain⟨_,rfl⟩:=k;simp at hr
  ·exact f b d k a e hr
 |ent i _ f=>
  intro b d c a e hr;rcases List.mem_cons.1 c with k|k
  ·simp only[ay]at k;obtain⟨rfl,rfl⟩:=k;rcases List.mem_cons.1 hr with q|q
   ·simp only[ay]at q;obtain⟨rfl,rfl⟩:=q;exact i
   ·exact f _ _ (db ..) a e q
  ·exact f b d (cw _ k) a e hr
def LG{c:List (List T×T)}{b:List T}{d:T}(a:D7 c b=some d):(b,d)∈c:=by
 induction c with
 |nil=>simp[D7]at a
 |cons g c h=>
  obtain⟨f,r1⟩:=g;have a: @Bool.rec (λ_=>aa T) (D7 c b) (some r1) (Ai b f)=some d:=a;cases e:Ai b f with
  |false=>rw[e]at a;exact cw _ (h a)
  |true=>
   rw[e]at a;have a:some r1=some d:=a;simp only[ar]at a;subst a;rw[Oz _ _ e];exact db ..
def LF{e:uC}{c:Nat}{b:List T}{d:T}(a:Ah e c b=some d):∃f,(c,f)∈e/\(b,d)∈f:=by
 induction e with
 |nil=>simp[Ah]at a
 |cons l e o=>
  obtain⟨h,f⟩:=l;have a: @Bool.rec (λ_=>aa T) (Ah e c b) (@Option.rec T (λ_=>aa T) (Ah e c b) (λd=>some d) (D7 f b)) (Nat.beq c h)=some d:=a;have k:Ah e c b=some d->∃g,(c,g)∈(h,f)::e/\(b,d)∈g:=λp=>by
   obtain⟨g,m,n⟩:=o p;exact⟨g,cw _ m,n⟩
  cases j:Nat.beq c h with
  |false=>rw[j]at a;exact k a
  |true=>
   rw[j]at a;cases i:D7 f b with
   |none=>rw[i]at a;exact k a
   |some q=>
    rw[i]at a;have a:some q=some d:=a;simp only[ar]at a;subst a;rw[aC j];exact⟨f,db ..,LG i⟩
def Of(h:uC)(ft:aj->aa pF):aj->aa pF:=λb=>
 Option.casesOn (ft b) none λe=>some λd f a c=>Option.casesOn (Ah h b a) (e d f a c) λg=>some (g,c)
def Oe{i:ai}{cx:Ctx}{h:uC}{ft:aj->aa pF}(y:xr i cx h)(z:∀a c,ft a=some c->lI i cx a c):∀a c,Of h ft a=some c->lI i cx a c:=by
 intro a c d;unfold Of at d;cases k:ft a with
 |none=>rw[k]at d;simp at d
 |some o=>
  rw[k]at d;simp only[ar]at d;subst d;intro n v q e f g j b l t u m s p;have b: @Option.rec T (λ_=>aa (T×H)) (o n q e f) (λg=>some (g,f)) (Ah h a e)=some (g,j):=b;cases hE:Ah h a e with
  |none=>rw[hE]at b;exact z a o k n v q e f g j b l t u m s p
  |some r=>
   rw[hE]at b;have b:some (r,f)=some (g,j):=b;simp only[ar,ay]at b;obtain⟨rfl,rfl⟩:=b;obtain⟨A,w,x⟩:=LF hE;exact y.mem a A w e r x l t u m f s p
def wD(b:uC)(ft:aj->aa pF)(a:Nat):iG:=Hn (Of b ft) a
def Hm{a:ai}{cx:Ctx}{e:uC}{ft:aj->aa pF}(f:xr a cx e)(g:∀b c,ft b=some c->lI a cx b c)(d:Nat):mR a cx (wD e ft d):=Aj (Oe f g) d
def xr.next{c:ai}{cx:Ctx}{f:uC}{ft:aj->aa pF}(n:∀a g,ft a=some g->lI c cx a g){i:Nat}{a:Nat}{d:List (List T×T)}(h:xr c cx ((a,d)::f)){b:List T}{e:T}
 (hl:mh b=true) (m:wD ((a,d)::f) ft i a b ⟨0,0,[]⟩=some (e,⟨0,0,[]⟩)):xr c cx ((a,(b,e)::d)::f):=
 .ent (xK (ll b hl) λj p q k o l=>Hm h n i a b ⟨0,0,[]⟩ e ⟨0,0,[]⟩ m j p q k o l) h
def put(a:fJ)(b:Nat)(d:T):fJ:=(li a b d).getD a
def oz(e:fJ)(a:Nat)(d:T):li e a d=some (put e a d):=by
 have:∃c,li e a d=some c:=by
  induction e with
  |nil=>exact⟨_,rfl⟩
  |cons b h c i=>
   obtain⟨f,ht⟩:=i;cases g:Nat.beq b a with
   |true=>exact⟨.cons b d c,by show @Bool.rec (λ_=>aa fJ) _ _ (Nat.beq b a)=_;rw[g]⟩
   |false=>exact⟨.cons b h f,by show @Bool.rec (λ_=>aa fJ) (dJ (li c a d) λf=>some (.cons b h f)) _ (Nat.beq b a)=_;rw[g,ht];rfl⟩
 obtain⟨c,hr⟩:=this;rw[hr];unfold put;rw[hr];rfl
def kT(b:Nat)(d:T)(c:fJ)(a:Nat):dF (.cons b d c) a=if b=a then some d else dF c a:=by
 show @Bool.rec (λ_=>aa T) (dF c a) (some d) (Nat.beq b a)=_;cases e:Nat.beq b a with
 |true=>rw[aq (aC e)]
 |false=>rw[ao (cI e)]
def DX(a:Nat):dF .nil a=none:=rfl
def Oi(g:fJ)(b:Nat)(c:T)(j:Nat):dF (put g b c) j=if b=j then some c else dF g j:=by
 have a:=oz g b c;generalize put g b c=f at a;induction g generalizing f with
 |nil=>
  have a:some (fJ.cons b c .nil)=some f:=a;simp only[ar]at a;subst a;rw[kT,DX]
 |cons e k d l=>
  have a: @Bool.rec (λ_=>aa fJ) (dJ (li d b c) λd=>some (.cons e k d)) (some (.cons e c d)) (Nat.beq e b)=some f:=a;cases h:Nat.beq e b with
  |true=>
   rw[h]at a;have a:some (fJ.cons e c d)=some f:=a;simp only[ar]at a;subst a;have:=aC h;subst this;simp only[kT];split<;>rfl
  |false=>
   rw[h]at a;have a:(dJ (li d b c) λd=>some (fJ.cons e k d))=some f:=a;rw[oz]at a;simp only[dO,ar]at a;subst a;have:=cI h;rw[kT,kT,l _ (oz _ _ _)];split
   ·rename_i i;subst i;rw[ao (λi=>this i.symm)]
   ·rfl
structure iw where
 n:Env->H->Prop
 x:Nat->Env->H->Prop
 r:Env->H->Prop
def W(f:Out)(c:iw):Prop:=∃d a b,f=some (d,a,b)/\Ex.casesOn d (c.n a b) (λe=>c.x e a b) (c.r a b)
@[simp] theorem Cx (a:Env) (b:H) (d:iw):W (some (.normal,a,b)) d=d.n a b:=by
 apply propext;constructor
 ·rintro⟨h,f,g,e,c⟩;simp only[ar,ay]at e;obtain⟨rfl,rfl,rfl⟩:=e;exact c
 ·exact λc=>⟨_,a,b,rfl,c⟩
@[simp] theorem Cy (f:Nat) (a:Env) (b:H) (d:iw):W (some (.exit f,a,b)) d=d.x f a b:=by
 apply propext;constructor
 ·rintro⟨i,g,h,e,c⟩;simp only[ar,ay]at e;obtain⟨rfl,rfl,rfl⟩:=e;exact c
 ·exact λc=>⟨_,a,b,rfl,c⟩
@[simp] theorem Tq (a:Env) (b:H) (d:iw):W (some (.ret,a,b)) d=d.r a b:=by
 apply propext;constructor
 ·rintro⟨h,f,g,e,c⟩;simp only[ar,ay]at e;obtain⟨rfl,rfl,rfl⟩:=e;exact c
 ·exact λc=>⟨_,a,b,rfl,c⟩
def Pz(a:iw):¬W none a:=by rintro⟨e,c,d,b,_⟩;simp at b
def EJ(b:Env->H->Out)(a:iw):iw:=⟨λc d=>W (b c d) a,a.x,a.r⟩
def qR(id:Nat)(a:iw):iw:=⟨a.n,λd b c=>if d=id then a.n b c else a.x d b c,a.r⟩
def w9(b:Env->H->Prop)(a:iw):iw:=⟨b,a.x,a.r⟩
@[simp] theorem acz (b:Env->H->Out) (a:iw) (c:Env) (d:H):(EJ b a).n c d=W (b c d) a:=rfl
@[simp] theorem UD (e:Env->H->Out) (a:iw) (d:Nat) (b:Env) (c:H):(EJ e a).x d b c=a.x d b c:=rfl
@[simp] theorem acy (d:Env->H->Out) (a:iw) (b:Env) (c:H):(EJ d a).r b c=a.r b c:=rfl
@[simp] theorem Zh (id:Nat) (a:iw) (b:Env) (c:H):(qR id a).n b c=a.n b c:=rfl
@[simp] theorem xX (id:Nat) (a:iw) (d:Nat) (b:Env) (c:H):(qR id a).x d b c=if d=id then a.n b c else a.x d b c:=rfl
@[simp] theorem Zg (id:Nat) (a:iw) (b:Env) (c:H):(qR id a).r b c=a.r b c:=rfl
@[simp] theorem acC (a:Env->H->Prop) (d:iw) (b:Env) (c:H):(w9 a d).n b c=a b c:=rfl
@[simp] theorem acA (e:Env->H->Prop) (a:iw) (d:Nat) (b:Env) (c:H):(w9 e a).x d b c=a.x d b c:=rfl
@[simp] theorem acB (d:Env->H->Prop) (a:iw) (b:Env) (c:H):(w9 d a).r b c=a.r b c:=rfl
@[simp] theorem Z7 (c e:Env->H->Out) (a:Env) (b:H) (d:iw):W (Bb c e a b) d=W (c a b) (EJ e d):=by
 apply propext;unfold Bb;cases k:c a b with
 |none=>constructor<;>(rintro⟨f,a,b,g,_⟩;simp[dJ]at g)
 |some h=>
  obtain⟨f,i,j⟩:=h;simp only[dO,ks];cases f<;>simp
@[simp] theorem RM (id:Nat) (g:Env->H->Out) (b:Env) (d:H) (a:iw):W (xm id g b d) a=W (g b d) (qR id a):=by
 apply propext;unfold xm;cases l:g b d with
 |none=>constructor<;>(rintro⟨i,b,d,j,_⟩;simp[dJ]at j)
 |some k=>
  obtain⟨i,c,e⟩:=k;simp only[dO,ks];cases i with
  |normal=>simp
  |ret=>simp
  |exit f=>
   show W (@Bool.rec (λ_=>Out) (some (.exit f,c,e)) (some (.normal,c,e)) (Nat.beq f id)) a↔_;cases h:Nat.beq f id with
   |true=>
    show W (some (.normal,c,e)) a↔_;rw[Cx,Cy,xX,aq (aC h)]
   |false=>
    show W (some (.exit f,c,e)) a↔_;rw[Cy,Cy,xX,ao (cI h)]
def OO(d:aa T)(a b:Prop):Prop:=match d with
 |some (.bool c)=>if c=true then a else b
 |_=>False
def PB{σ:Type}{g:Env->H->Out}(I:σ->Env->H->Prop)(m:σ->Nat){i:iw}
 (r:∀c a b,I c a b->W (g a b) (w9 (λe f=>∃h,m h<m c/\I h e f) i)):
 ∀d c a b,m c<d->I c a b->W (nH g d a b) i:=by
 intro d;induction d with
 |zero=>intro c a b t;omega
 |succ d u=>
  intro c a b t p;obtain⟨k,n,o,s,j⟩:=r c a b p;show W (dJ (g a b) λv=>three v λk e f=> @Ex.rec (λ_=>Out) (nH g d e f) (λl=>some (.exit l,e,f)) (some (.ret,e,f)) k) i;rw[s];simp only[dO,ks];cases k with
  |normal=>
   obtain⟨h,w,q⟩:=j;exact u h n o dj q
  |exit l=>exact(Cy _ _ _ _).mpr j
  |ret=>exact(Tq _ _ _).mpr j
section
variable {P:ai}{cx:Ctx}
end
end
noncomputable section
@[simp] theorem aaZ (c:iG) (d a:H) (b:T):fin c d (some (.val b a))=some (b,a):=rfl
@[simp] theorem ZL (b:iG) (d:H) (c:aj) (a:List T):fin b d (some (.call c a))=b c a d:=rfl
@[simp] theorem xx (a:H) (b:T):val a (some b)=some (.val b a):=rfl
@[simp] theorem zx (a:H) (b:T):jl (some (b,a))=some (.val b a):=rfl
def Q6(a b:List Nat):Tc a b=decide (a=b):=by rw[Fc,bD];simp
def Q7(a b:Int):P5 a b=decide (a=b):=by rw[xf];rfl
def vQ(a b:Int):JV a b=decide (a<b):=w8 a b
@[simp] theorem qS (a:ak):CD a a=true:=by cases a<;>rfl
@[simp] theorem UY (d a:ak) (b c:Int):qX (.int d) (.int a b) (.int a c)=some (decide (b=c)):=by
 show fP (CD a a) (some (P5 b c))=_;rw[qS,Q7];rfl
@[simp] theorem UX (a b:List Nat):qX .str (.str a) (.str b)=some (decide (a=b)):=by
 show some (Tc a b)=_;rw[Q6]
@[simp] theorem Td (a b:Bool):qX .bool (.bool a) (.bool b)=some (a==b):=by cases a<;>cases b<;>rfl
@[simp] theorem WF (a:ak) (b c:Int):binop .lss (.int a b) (.int a c)=some (.bool (decide (b<c))):=by
 show fP (CD a a) (wn (JV b c))=_;rw[qS,vQ,gX,qJ]
@[simp] theorem WH (a:ak) (b c:Int):binop .leq (.int a b) (.int a c)=some (.bool (decide (b<=c))):=by
 show fP (CD a a) (wn (!JV c b))=_;rw[qS,vQ,gX,qJ];congr 2;rw[bD];simp
@[simp] theorem WI (a:ak) (b c:Int):binop .gtr (.int a b) (.int a c)=some (.bool (decide (c<b))):=by
 show fP (CD a a) (wn (JV c b))=_;rw[qS,vQ,gX,qJ]
@[simp] theorem WJ (a:ak) (b c:Int):binop .geq (.int a b) (.int a c)=some (.bool (decide (c<=b))):=by
 show fP (CD a a) (wn (!JV b c))=_;rw[qS,vQ,gX,qJ];congr 2;rw[bD];simp
def jr{a:Int}(d: -9223372036854775808<=a)(c:a<9223372036854775808):Jp .i64 a=a:=by
 cases a with
 |ofNat b=>
  show @Bool.rec (λ_=>Int) _ _ (Nat.ble b 9223372036854775807)=_;rw[bW (by simp at c;omega)]
 |negSucc b=>
  show @Bool.rec (λ_=>Int) _ _ (Nat.ble b 9223372036854775807)=_;rw[bW dj]
def F1{a:Int}(b: -9223372036854775808<=a)(c:a<9223372036854775808):o8 .i64 a=some (.int .i64 a):=by
 unfold o8;rw[jr b c,nU]
def gY{a b:Int}(c: -9223372036854775808<=a+b)(d:a+b<9223372036854775808):binop .add (.int .i64 a) (.int .i64 b)=some (.int .i64 (a+b)):=F1 c d
def kL{a b:Int}(c: -9223372036854775808<=a-b)(d:a-b<9223372036854775808):binop .sub (.int .i64 a) (.int .i64 b)=some (.int .i64 (a-b)):=F1 c d
def Jf{a b:Nat}(c:a<b)(d:b<9223372036854775808):binop .add (.int .i64 (a:Int)) (.int .i64 1)=some (.int .i64 ((a+1:Nat):Int)):=by
 rw[gY dj dj];rfl
@[simp] theorem WY (a:Bool):unop .not (.bool a)=some (.bool !a):=by cases a<;>rfl
def Ol{b:Type}(a:List b):kx a=a.length:=jq a
@[simp] theorem Wg (b:H) (a:List T) (c:Bool):acw b (.dC a c)=some (.val (.int .i64 (a.length:Nat)) b):=by
 show val b (dJ (f6 (kx a)) λd=>some (.int .i64 (.ofNat d)))=_;rw[Ol,iq];rfl
@[simp] theorem Wv (a:List Nat):(T.str a).cells=[.str a]:=id rfl
@[simp] theorem Wx (a:ak) (b:Int):(T.int a b).cells=[.int a b]:=id rfl
@[simp] theorem Vj (a:Bool):(T.bool a).cells=[.bool a]:=id rfl
@[simp] theorem WA (a:List T):(T.agg a).cells=a:=id rfl
@[simp] theorem um (a b:Nat):Nat.beq a b=decide (a=b):=by
 rw[bD];simp
@[simp] theorem Kr (a b:Nat):Nat.ble a b=decide (a<=b):=by
 rw[bD];simp
@[simp] theorem RD (a b:Nat):Nat.blt a b=decide (a<b):=by
 rw[bD,aG];simp
@[simp] theorem Zw (a:List Nat):(T.str a).gD=true:=id rfl
@[simp] theorem Zy (a:ak) (b:Int):(T.int a b).gD=true:=id rfl
@[simp] theorem Wn (a:Bool):(T.bool a).gD=true:=id rfl
@[simp] theorem Wm (a:List T) (b:Bool):(T.dC a b).gD=true:=id rfl
@[simp] theorem ZA (a:List T):(T.agg a).gD=true:=id rfl
@[simp] theorem ZM (off:Nat) (b:H) (a:List T):faV off b (.je a)=dJ (jF off a) λc=>some (kW.val (.je c) b):=rfl
@[simp] theorem Wf (c:H) (b:Ty) (a:List T):c.load b (.je a)=jW b a:=rfl
@[simp] theorem aa5 {b:Type} (a:List b):jF 0 a=some a:=rfl
@[simp] theorem aa4 {c:Type} (b:Nat) (d:c) (a:List c):jF (b+1) (d::a)=jF b a:=rfl
@[simp] theorem aau {b:Type} (a:List b):takeN 0 a=some []:=rfl
@[simp] theorem aat {d:Type} (b:Nat) (c:d) (a:List d):takeN (b+1) (c::a)=dJ (takeN b a) λe=>some (c::e):=rfl
@[simp] theorem Wq (a:H) (c:List T) (b:Nat):exV a (.tuple c) b=val a (lF c b):=rfl
end
noncomputable section
open Classical in
@[simp] theorem DW:mh []=true:=by unfold mh;rfl
@[simp] theorem BF (a:T) (b:List T):mh (a::b)=(mB a&&mh b):=by rw[mh]
@[simp] theorem GA (a:ak) (b:Int):mB (.int a b)=true:=by unfold mB;rfl
@[simp] theorem We (a:Bool):mB (.bool a)=true:=by unfold mB;rfl
@[simp] theorem Gz (a:List Nat):mB (.str a)=true:=by unfold mB;rfl
@[simp] theorem Wc:mB .fO=true:=by unfold mB;rfl
@[simp] theorem Wd (a:List T) (b:Bool):mB (.dC a b)=mh a:=by rw[mB]
@[simp] theorem GC (a:List T):mB (.agg a)=mh a:=by rw[mB]
def Lt{d:Type}(c:d->T)(e:∀b,mB (c b)=true):∀a:List d,mh (a.map c)=true:=by
 intro a;induction a with
 |nil=>simp
 |cons b a f=>simp[e b,f]
def SL(b:T)(a:List T):Prop:=(b= .fO/\a=[])\/∃c,b= .dC a c
def sl(a:List T):T:=match a with| []=> .fO|x::b=> .dC (x::b) false
def RN(a:List T)(b:Bool):SL (.dC a b) a:= .inr ⟨b,rfl⟩
def SL.jc{b:T}{a:List T}(d:SL b a)(c:H):c.jc b=some a:=by
 rcases d with⟨rfl,rfl⟩|⟨e,rfl⟩<;>rfl
def SL.cells{a:T}{b:List T}(c:SL a b):a.cells=[a]:=by
 rcases c with⟨rfl,rfl⟩|⟨d,rfl⟩<;>rfl
def SL.gD{a:T}{b:List T}(c:SL a b):a.gD=true:=by
 rcases c with⟨rfl,rfl⟩|⟨d,rfl⟩<;>rfl
end
noncomputable section
def Hp(a:H):Prop:=a.eY.length=a.size
def RU{a:H}(b:Hp a)(c:iJ):Hp (a.cons c):=by unfold Hp at*;simp[H.cons,b]
@[simp] theorem size_cons (a:H) (b:iJ):(a.cons b).size=a.size+1:=rfl
def dQ(a:H)(b:Nat)(c:iJ):H:=(a.put b c).getD a
def F4{b:H}(i:Hp b){a:Nat}(h:a<b.size)(e:iJ):b.put a e=some (dQ b a e):=by
 have:∃d,b.put a e=some d:=by
  obtain⟨c,f,j⟩:=b;unfold Hp at i;simp only at i h;show∃d,(fP (Nat.blt a c) (dJ (kj j (Nat.sub (Nat.sub c 1) a) e) λg=> @Bool.rec (λ_=>aa H) (some ⟨c,f,g⟩) (some ⟨c,a,g⟩) (Nat.blt a f)))=some d;rw[show Nat.blt a c=true by rw[aG];exact h,gX,km,aq (by show c-1-a<_;omega),dO];cases Nat.blt a f<;>exact⟨_,rfl⟩
 obtain⟨d,k⟩:=this;unfold dQ;rw[k];rfl
def Ic{b:H}(i:Hp b){a:Nat}(g:a<b.size)(d:iJ):Hp (dQ b a d)/\(dQ b a d).size=b.size/\∀e,(dQ b a d).get e=if e=a then some d else b.get e:=by
 have f:=F4 i g d;generalize dQ b a d=j at*
 obtain⟨c,l,m⟩:=b;unfold Hp at*
 simp only at i g;have f:(fP (Nat.blt a c) (dJ (kj m (Nat.sub (Nat.sub c 1) a) d) λn=> @Bool.rec (λ_=>aa H) (some ⟨c,l,n⟩) (some ⟨c,a,n⟩) (Nat.blt a l)))=some j:=f;rw[show Nat.blt a c=true by rw[aG];exact g,gX,km,aq (by show c-1-a<_;omega),dO]at f;have q:j.size=c/\j.eY=m.set (c-1-a) d:=by
  cases hl:Nat.blt a l<;>rw[hl]at f<;>simp only[ar]at f<;>subst f<;>exact⟨rfl,rfl⟩
 obtain⟨k,p⟩:=q;refine⟨by rw[k,p];simp[i],k,λe=> ?_⟩;rw[H.get_eq,H.get_eq,k,p];by_cases o:e=a
 ·subst o;rw[aq g,aq rfl];simp[bQ,i];omega
 ·rw[ao o];simp only;by_cases h:e<c
  ·rw[aq h,aq h,cA dj]
  ·rw[ao h,ao h]
def get_put{b:H}(f:Hp b){c:Nat}(e:c<b.size)(d:iJ)(a:Nat):(dQ b c d).get a=if a=c then some d else b.get a:=(Ic f e d).2.2 a
@[simp] theorem aa1 (off:Nat) (c:H) (a b d e:Nat):faV off c (.ptr a b d e)=some (.val (.ptr a b d (e+off)) c):=by
 show(dJ (f6 (Nat.add e off)) λf=>some (kW.val (.ptr a b d f) c))=_;rw[iq];rfl
@[simp] theorem Ob (a:H) (b:Nat->T) (c:iJ):jl (a.new b c)=some (.val (b a.size) (a.cons c)):=by rw[H.kv];rfl
def IC{a:H}(b:Hp a)(g d:T):tk 0 0 g d a=some (d,⟨0,0,[]⟩):=by
 obtain⟨c,f,e⟩:=a;unfold Hp at b;simp only at b;unfold tk;simp only;rw[show Nat.sub c 0=c from rfl,ls,aq dj,dO,show Nat.ble 0 f=true by simp];simp[show e.drop c=[]by simp[b]]
def GH{a:H}(e:Hp a){b c:T}(d:iT a 0 b=some c):BJ false 0 0 b a=some (c,⟨0,0,[]⟩):=by
 show @Option.rec T (λ_=>aa (T×H)) (mJ 0 b a) (λc=>tk 0 0 b c a) (iT a 0 b)=_;rw[d];exact IC e b c
inductive RV:T->Prop where
 |bool (b:Bool):RV (.bool b)
 |int (k:ak) (n:Int):RV (.int k n)
 |str (s:List Nat):RV (.str s)
 |dC (es:List T) (f:Bool):RV (.dC es f)
 |fO:RV .fO
def RV.freeze{a:T}(d:RV a)(c:H)(e b:Nat):freeze c e (b+1) a=some a:=by cases d<;>rfl
def rM{c:T->aa T}{a:List T}(d:∀b∈a,c b=some b):fw c a=some a:=by
 induction a with
 |nil=>rfl
 |cons b h f=>
  rw[jn,d b dp,f λg e=>d g (by simp[e])];rfl
def aal(b:T):Prop:=RV b\/∃a,b= .agg a/\∀c∈a,RV c
def aal.freeze{e:T}(d:aal e)(b:H)(c a:Nat):freeze b c (a+2) e=some e:=by
 rcases d with d|⟨f,rfl,g⟩
 ·exact d.freeze b c (a+1)
 ·show(dJ (fw (Go.TI.freeze b c (a+1)) f) λi=>some (T.agg i))=_;rw[rM λj h=>(g j h).freeze b c a];rfl
def y9(b:List (Nat×Nat))(c d:Nat):Bool:=b.any λa=>a.1==c&&a.2==d
def kU(a:List (Nat×Nat))(b:Nat):Bool:=a.any λc=>c.1==b
def D6{a:List (Nat×Nat)}{b d:Nat}(h:y9 a b d=true):kU a b=true:=by
 unfold y9 at h;unfold kU;rw[List.any_eq_true]at h|-;obtain⟨f,c,h⟩:=h;exact⟨f,c,by simp at h;simp[h.1]⟩
def Rp(g:List (Nat×Nat))(c:af Oper):Bool:=
 let f:=Jg c.toList []
 let d:=c.toList.zipIdx
 d.all λa=>d.all λb=> !Nat.blt b.2 a.2|| !((rN b.1.op&&hU a.1.op)||(hU b.1.op&&(rN a.1.op||hU a.1.op)))||(f.getD a.2 0).testBit b.2||y9 g b.2 a.2
def Cg{j:List (Nat×Nat)}{g:af Oper}(k:Rp j g=true){b c:Nat}{f d:Oper}(p:g[b]? =some f)(r:g[c]? =some d)(q:b<c)
 (s:(rN f.op=true/\hU d.op=true)\/(hU f.op=true/\(rN d.op=true\/hU d.op=true))):ju g b c=true\/y9 j b c=true:=by
 unfold Rp at k;have m:=List.all_eq_true.1 k (d,c) (mem_zipIdx r);have a:=List.all_eq_true.1 m (f,b) (mem_zipIdx p);have o:Nat.blt b c=true:=by rw[aG];exact q
 simp only[o,cG,Bool.false_or,bP,bL]at a;rcases a with(a|a)|a
 ·exfalso;rcases s with⟨l,i⟩|⟨l,i|i⟩<;>simp[l,i]at a
 ·exact .inl a
 ·exact .inr a
def lZ(c:List (Nat×Nat))(f b:Nat)(d:List (Nat×H×H)):Prop:=∀a∈d,y9 c a.1 f=true->ew a.2.1 a.2.2 b=true
def u4(b:List (Nat×Nat))(d:Nat)(h c:H)(f:List (Nat×Nat)):Prop:=∀a∈f,y9 b a.1 d=true->ew h c a.2=true
@[simp] theorem Uz (b:List (Nat×Nat)) (c a:Nat):lZ b c a []=True:=by simp[lZ]
@[simp] theorem SX (b:List (Nat×Nat)) (c a g:Nat) (h f:H) (d:List (Nat×H×H)):lZ b c a ((g,h,f)::d)=((y9 b g c=true->ew h f a=true)/\lZ b c a d):=by simp[lZ]
@[simp] theorem Wr (a:List (Nat×Nat)) (c:Nat) (h b:H):u4 a c h b []=True:=by simp[u4]
@[simp] theorem U0 (a:List (Nat×Nat)) (c f d:Nat) (h b:H) (g:List (Nat×Nat)):u4 a c h b ((f,d)::g)=((y9 a f c=true->ew h b d=true)/\u4 a c h b g):=by simp[u4]
open Classical in
def wj(cx:Ctx)(cf:iG)(mask:Nat)(g:af Oper)(b:List (Nat×Nat)):List Oper->Nat->List (Nat×Nat)->List (Nat×H×H)->Env->H->aa (Env×H)
 | [],_,_,_,e,h=>some (e,h)
 |o::k,a,f,c,e,h=>dJ (kQ cx cf mask g e h o) λm=>two m λj d=>
  dJ (j3 g mask e o.guard) λr=>
   if r=true then
    if hU o.op=true then
     if u4 b a h d f/\(∀p l q i,o.op= .store p l q->dJ (fy cx mask e l) dL=some i->lZ b a i c)then
      wj cx cf mask g b k (a+1) f (if kU b a=true then(a,h,d)::c else c) j d else none
    else match fU cx mask e h o.op with
     |none=>wj cx cf mask g b k (a+1) f c j d
     |some i=>if lZ b a i c then wj cx cf mask g b k (a+1) (if kU b a=true then(a,i)::f else f) c j d else none
   else wj cx cf mask g b k (a+1) f c j d
section
variable {cx:Ctx}{cf:iG}{n mask:Nat}
def FW{s:List (Nat×Nat)}{f:af Oper}(K:Rp s f=true):∀(l:List Oper) (b:Nat) (v:List (Nat×Nat)) (r:List (Nat×H×H)) (g:Seen) (e:Env) (h:H) (p:Env×H),(∀q,l[q]? =f[b+q]?)->
 (∀a∈g.lL,a.1<b/\(∃d,f[a.1]? =some d/\rN d.op=true)/\(kU s a.1=true->a∈v))->
 (∀a∈g.kz,a.1<b/\(∃d,f[a.1]? =some d/\hU d.op=true)/\(kU s a.1=true->a∈r))->
 wj cx cf mask f s l b v r e h=some p->jJ cx cf mask f l b g e h=some p:=by
 intro l;induction l with
 |nil=>intro b v r g e h p _ _ _ c;exact c
 |cons d l D=>
  intro b v r g e h p hl G F c;have A:f[b]? =some d:=by have:=hl 0;simpa using this.symm
  have B:∀q,l[q]? =f[b+1+q]? :=λq=>by
   have:=hl (q+1);simp only[da]at this;rw[this];congr 1;omega
  show(dJ (kQ cx cf mask f e h d) λa=>two a λm i=>
   dJ (j3 f mask e d.guard) λX=> @Bool.rec (λ_=>aa (Env×H)) (jJ cx cf mask f l (b+1) g m i)
    (@Bool.rec (λ_=>aa (Env×H))
      (@Option.rec Nat (λ_=>aa (Env×H)) (jJ cx cf mask f l (b+1) g m i)
        (λj=>fP (nC f b j g.kz) (jJ cx cf mask f l (b+1) ⟨(b,j)::g.lL,g.kz⟩ m i)) (fU cx mask e h d.op))
      (fP (wA f b h i g.lL) (fP (pY cx mask f b e g.kz d.op) (jJ cx cf mask f l (b+1) ⟨g.lL,(b,h,i)::g.kz⟩ m i))) (hU d.op)) X)=some p
  unfold wj at c;obtain⟨⟨m,i⟩,S,c⟩:=dA.1 c;simp only[j9]at c;obtain⟨W,T,c⟩:=dA.1 c;rw[S,dO,j9,T,dO];have C:∀a∈g.lL,a.1<b+1/\(∃d,f[a.1]? =some d/\rN d.op=true)/\(kU s a.1=true->a∈v):=λa hp=>⟨by have:=(G a hp).1;omega,(G a hp).2⟩;have z:∀a∈g.kz,a.1<b+1/\(∃d,f[a.1]? =some d/\hU d.op=true)/\(kU s a.1=true->a∈r):=λa hp=>⟨by have:=(F a hp).1;omega,(F a hp).2⟩;have lk:∀j,(rN d.op=true\/hU d.op=true)->lZ s b j r->nC f b j g.kz=true:=by
   intro j Q w;unfold nC;rw[yq,cD];intro a hp;obtain⟨t,⟨U,u,o⟩,J⟩:=F a hp;show @Bool.rec (λ_=>Bool) (ju f a.1 b) true (ew a.2.1 a.2.2 j)=true;rcases Cg K u A t (.inr ⟨o,Q⟩)with I|y
   ·rw[I];cases ew a.2.1 a.2.2 j<;>rfl
   ·rw[w a (J (D6 y)) y]
  cases W with
  |false=>simp only[cd,br]at c;exact D (b+1) v r g m i p B C z c
  |true=>
   simp only[bo]at c;cases x:hU d.op with
   |true=>
    rw[x]at c;simp only[bo]at c;split at c
    ·rename_i w;have N:wA f b h i g.lL=true:=by
      unfold wA;rw[yq,cD];intro a hp;obtain⟨t,⟨U,u,o⟩,J⟩:=G a hp;show @Bool.rec (λ_=>Bool) (ju f a.1 b) true (ew h i a.2)=true;rcases Cg K u A t (.inl ⟨o,x⟩)with I|y
      ·rw[I];cases ew h i a.2<;>rfl
      ·rw[w.1 a (J (D6 y)) y]
     have O:pY cx mask f b e g.kz d.op=true:=by
      unfold pY;split
      ·rename_i q M V R;cases P:dJ (fy cx mask e M) dL with
       |none=>rfl
       |some j=>exact lk j (.inr x) (w.2 q M V j R P)
      ·rfl
     simp only[N,O,gX];refine D (b+1) _ _ _ m i p B C (λa hp=> ?_) c;rcases List.mem_cons.1 hp with rfl|hp
     ·refine⟨dp,⟨d,A,x⟩,λk=> ?_⟩;simp only at k;rw[aq k];exact db ..
     ·obtain⟨t,u,o⟩:=z a hp;refine⟨t,u,λk=> ?_⟩;split
      ·exact cw _ (o k)
      ·exact o k
    ·simp at c
   |false=>
    rw[x]at c;simp only[cd,br]at c;simp only;cases E:fU cx mask e h d.op with
    |none=>rw[E]at c;exact D (b+1) v r g m i p B C z c
    |some j=>
     rw[E]at c;simp only at c;split at c
     ·rename_i w;have L:=GD E;simp only[lk j (.inl L) w,gX];refine D (b+1) _ _ _ m i p B (λa hp=> ?_) z c;rcases List.mem_cons.1 hp with rfl|hp
      ·refine⟨dp,⟨d,A,L⟩,λk=> ?_⟩;simp only at k;rw[aq k];exact db ..
      ·obtain⟨t,u,o⟩:=C a hp;refine⟨t,u,λk=> ?_⟩;split
       ·exact cw _ (o k)
       ·exact o k
     ·simp at c
abbrev DL:=List (Nat×List (Nat×Nat))
def MK(cx:Ctx)(cf:iG)(mask:Nat)(dl:DL)(id:Nat)(a:af Oper)(e:Env)(h:H):Out:=
 match dl.lookup id with
 |none=>dJ (j8 cx cf mask a a.toList ⟨e.vars,.nil⟩ h) λd=>two d λb c=>some (.normal,⟨b.vars,.nil⟩,c)
 |some f=>dJ (wj cx cf mask a f a.toList 0 [] [] ⟨e.vars,.nil⟩ h) λd=>two d λb c=>some (.normal,⟨b.vars,.nil⟩,c)
def jh(cx:Ctx)(cf:iG)(b mask:Nat)(dl:DL):Code->Env->H->Out
 | .skip=>λe h=>some (.normal,e,h)
 | .region id f _=>MK cx cf mask dl id f
 | .seq c a=>Bb (jh cx cf b mask dl c) (jh cx cf b mask dl a)
 | .cond d c a=>Hg cx mask d (jh cx cf b mask dl c) (jh cx cf b mask dl a)
 | .block id a=>xm id (jh cx cf b mask dl a)
 | .loop a=>nH (jh cx cf b mask dl a) b
 | .exit id=>λe h=>some (.exit id,e,h)
 | .ret=>λe h=>some (.ret,e,h)
 |_=>λ_ _=>none
def mm(dl:DL):Code->Bool
 | .region id d c=>(match dl.lookup id with|none=> !c||Jx d|some f=>c&&Rp f d)
 | .seq a b=>mm dl a&&mm dl b
 | .cond _ a b=>mm dl a&&mm dl b
 | .block _ a=>mm dl a
 | .loop a=>mm dl a
 |_=>true
def pA{dl:DL}:∀(p:Code),mm dl p=true->∀e h b,jh cx cf n mask dl p e h=some b->jL cx cf n mask p e h=some b:=by
 intro p;induction p with
 |region id k A=>
  intro c e h b a;obtain⟨s,E⟩:=e;replace a:MK cx cf mask dl id k ⟨s,E⟩ h=some b:=a;unfold MK at a;simp only[mm]at c;cases hl:dl.lookup id with
  |none=>
   rw[hl]at a c;simp only at a c;cases A with
   |false=>exact a
   |true=>
    simp only[cG,Bool.false_or]at c;show(dJ (jJ cx cf mask k k.toList 0 ⟨[],[]⟩ ⟨s,.nil⟩ h) λb=>two b λf g=>some (Ex.normal,(⟨f.vars,.nil⟩:Env),g))=some b;rw[Eo c k.toList 0 ⟨[],[]⟩ ⟨s,.nil⟩ h (λy=>by simp) (λm i=>by simp at i) (λm i=>by simp at i)];exact a
  |some G=>
   rw[hl]at a c;simp only[aB]at a c;obtain⟨rfl,c⟩:=c;obtain⟨m,i,a⟩:=dA.1 a;show(dJ (jJ cx cf mask k k.toList 0 ⟨[],[]⟩ ⟨s,.nil⟩ h) λb=>two b λf g=>some (Ex.normal,(⟨f.vars,.nil⟩:Env),g))=some b;rw[FW c k.toList 0 [] [] ⟨[],[]⟩ ⟨s,.nil⟩ h m (λy=>by simp) (λm i=>by simp at i) (λm i=>by simp at i) i,dO];exact a
 |seq d o w x=>
  intro c e h b a;simp only[mm,aB]at c;have a:Bb (jh cx cf n mask dl d) (jh cx cf n mask dl o) e h=some b:=a;show Bb (jL cx cf n mask d) (jL cx cf n mask o) e h=some b;unfold Bb at*
  obtain⟨⟨l,t,u⟩,q,a⟩:=dA.1 a;rw[w c.1 e h _ q,dO];simp only[ks]at*
  cases l with
  |normal=>exact x c.2 t u b a
  |exit r=>exact a
  |ret=>exact a
 |cond z d o w x=>
  intro c e h b a;simp only[mm,aB]at c;have a:Hg cx mask z (jh cx cf n mask dl d) (jh cx cf n mask dl o) e h=some b:=a;show Hg cx mask z (jL cx cf n mask d) (jL cx cf n mask o) e h=some b;unfold Hg at*
  obtain⟨F,B,a⟩:=dA.1 a;rw[B,dO];cases F<;>first|exact a|skip
  rename_i y;cases y with
  |true=>exact w c.1 e h b a
  |false=>exact x c.2 e h b a
 |block id d v=>
  intro c e h b a;simp only[mm]at c;have a:xm id (jh cx cf n mask dl d) e h=some b:=a;show xm id (jL cx cf n mask d) e h=some b;unfold xm at*
  obtain⟨m,q,a⟩:=dA.1 a;rw[v c e h _ q,dO];exact a
 |loop d v=>
  intro c e h b a;simp only[mm]at c;have D:∀j e h b,nH (jh cx cf n mask dl d) j e h=some b->nH (jL cx cf n mask d) j e h=some b:=by
   intro j;induction j with
   |zero=>intro e h b a;simp[nH]at a
   |succ j C=>
    intro e h b a;have a:(dJ (jh cx cf n mask dl d e h) λb=>three b λl f g=> @Ex.rec (λ_=>Out) (nH (jh cx cf n mask dl d) j f g) (λr=>some (.exit r,f,g)) (some (.ret,f,g)) l)=some b:=a;show(dJ (jL cx cf n mask d e h) λb=>three b λl f g=> @Ex.rec (λ_=>Out) (nH (jL cx cf n mask d) j f g) (λr=>some (.exit r,f,g)) (some (.ret,f,g)) l)=some b;obtain⟨⟨l,t,u⟩,q,a⟩:=dA.1 a;rw[v c e h _ q,dO];simp only[ks]at*
    cases l with
    |normal=>exact C t u b a
    |exit r=>exact a
    |ret=>exact a
  exact D n e h b a
 |_=>intro _ e h b a;first|exact a|(simp[jh]at a)
def WR(cx:Ctx)(cf:iG)(mask:Nat)(f:af Oper)(d:List Oper)(i g:fJ)(h:H)(c:fJ->H->Prop):Prop:=
 ∃a b,j8 cx cf mask f d ⟨i,g⟩ h=some (a,b)/\c a.vars b
def WX(c:aa (T×H))(b:T->H->Prop):Prop:=∃a h,c=some (a,h)/\b a h
@[simp] theorem yu (b:T) (h:H) (d:T->H->Prop):WX (some (b,h)) d=d b h:=by
 apply propext;constructor
 ·rintro⟨g,f,c,a⟩;simp only[ar,ay]at c;obtain⟨rfl,rfl⟩:=c;exact a
 ·exact λa=>⟨b,h,rfl,a⟩
def WD(mask:Nat)(g:aa Tmp)(f:T)(d c:fJ)(a:fJ->fJ->Prop):Prop:=match g with
 |none=>a d c
 |some b=>if jS mask b=true then a (put d b f) c else a d (.cons b f c)
def BK(a b:Nat):(jS a b=true)=((a>>>b)&&&1=1):=by
 apply propext;show Nat.beq ((a>>>b)&&&1) 1=true↔_;exact⟨aC,λh=>by rw[h];rfl⟩
def FD(a:Tmp)(d:T)(f c:fJ)(b:fJ->fJ->Prop):WD mask (some a) d f c b=if(mask>>>a)&&&1=1 then b (put f a d) c else b f (.cons a d c):=by
 unfold WD;simp only[BK]
def PF(i:af Oper)(b d:fJ)(h:H)(f:fJ->H->Prop):WR cx cf mask i [] b d h f=f b h:=by
 apply propext;constructor
 ·rintro⟨e,g,a,c⟩;have a:some ((⟨b,d⟩:Env),h)=some (e,g):=a;simp only[ar,ay]at a;obtain⟨rfl,rfl⟩:=a;exact c
 ·exact λc=>⟨⟨b,d⟩,h,rfl,c⟩
def FC(l:af Oper)(k:Oper)(j:List Oper)(b a:fJ)(h:H)(q:fJ->H->Prop):
 WR cx cf mask l (k::j) b a h q=WX (xz cx cf mask l ⟨b,a⟩ h k) λc d=>WD mask k.dst c b a λb a=>WR cx cf mask l j b a d q:=by
 have u:∀c d,(∃f,Env.dst mask ⟨b,a⟩ k.dst c=some f/\WR cx cf mask l j f.vars f.tmps d q)↔WD mask k.dst c b a λb a=>WR cx cf mask l j b a d q:=by
  intro c d;cases x:k.dst with
  |none=>
   constructor
   ·rintro⟨f,g,p⟩;have g:some (⟨b,a⟩:Env)=some f:=g;simp only[ar]at g;subst g;exact p
   ·exact λp=>⟨_,rfl,p⟩
  |some m=>
   have hE:Env.dst mask ⟨b,a⟩ (some m) c=some (if jS mask m=true then⟨put b m c,a⟩else⟨b,.cons m c a⟩):=by
    show @Bool.rec (λ_=>aa Env) (some ⟨b,.cons m c a⟩) (dJ (li b m c) λj=>some ⟨j,a⟩) (jS mask m)=_;rw[oz];cases jS mask m<;>rfl
   rw[hE];unfold WD;simp only[ar,exists_eq_left'];split<;>rfl
 apply propext;have v:j8 cx cf mask l (k::j) ⟨b,a⟩ h=dJ (kQ cx cf mask l ⟨b,a⟩ h k) λw=>two w λo d=>j8 cx cf mask l j o d:=rfl;unfold WR;rw[v,pZ];constructor
 ·rintro⟨o,d,i,s⟩;obtain⟨⟨c,r⟩,t,i⟩:=dA.1 i;simp only[j9]at i;obtain⟨f,g,i⟩:=dA.1 i;exact⟨c,r,t,(u c r).1 ⟨f,g,o,d,i,s⟩⟩
 ·rintro⟨c,r,t,p⟩;obtain⟨f,g,o,d,i,s⟩:=(u c r).2 p;refine⟨o,d,?_,s⟩;rw[t,dO,j9,g,dO];exact i
def aac(f:af Oper)(g:aa Tmp)(i:Op)(m:ab)(l:String)(j:af Edge)(d:List Oper)(b a:fJ)(h:H)(c:fJ->H->Prop):
 WR cx cf mask f (⟨g,i,m,l,j,none⟩::d) b a h c=WX (fin cf h (iW i cx mask ⟨b,a⟩ h)) λo k=>WD mask g o b a λb a=>WR cx cf mask f d b a k c:=FC f _ d b a h c
def WG(c:aa Bool)(a b:Prop):Prop:=match c with|some true=>a|some false=>b|none=>False
def Kx(a b:Prop):WG (some true) a b=a:=rfl
def HB(b a:Prop):WG (some false) b a=a:=rfl
def PG(c:af Oper)(i:aa Tmp)(k:Op)(r:ab)(q:String)(o:af Edge)(f:Nat)(d:Bool)(j:List Oper)(b a:fJ)(h:H)(g:fJ->H->Prop):
 WR cx cf mask c (⟨i,k,r,q,o,some (f,d)⟩::j) b a h g=WG (j3 c mask ⟨b,a⟩ (some (f,d)))
  (WX (fin cf h (iW k cx mask ⟨b,a⟩ h)) λm l=>WD mask i m b a λb a=>WR cx cf mask c j b a l g)
  (WD mask i .undef b a λb a=>WR cx cf mask c j b a h g):=by
 rw[FC];show WX (dJ (j3 c mask ⟨b,a⟩ (some (f,d))) λt=> @Bool.rec (λ_=>aa (T×H)) (some (.undef,h)) (fin cf h (iW k cx mask ⟨b,a⟩ h)) t) _=_;cases j3 c mask ⟨b,a⟩ (some (f,d))with
 |none=>apply propext;constructor<;>(first|(rintro⟨m,l,p,_⟩;simp[dJ]at p)|exact False.elim)
 |some s=>cases s<;>simp[Kx,HB]
def Jr(a:aa T)(b:Bool):aa Bool:=dJ a λa=>match a with| .bool c=>some (c==b)|_=>some false
@[simp] theorem A0 (b a:Bool):Jr (some (.bool b)) a=some (b==a):=rfl
@[simp] theorem R0 (a:Bool):Jr (some .undef) a=some false:=rfl
@[simp] theorem A1 (d:List Oper) (e:Env) (c:Nat) (f:Bool):j3 d.toArray mask e (some (c,f))=Jr (dJ (dJ (d[c]?) λb=>b.dst) λa=>e.get mask a) f:=by
 show(dJ (dJ (dJ (lF d.toArray.toList c) λb=>b.dst) λa=>e.get mask a) λg=>_)=_;rw[kl];unfold Jr;simp only;cases (dJ (dJ (d[c]?) λb=>b.dst) λa=>e.get mask a)with
 |none=>rfl
 |some g=>cases g<;>first|rfl|(rename_i i;cases i<;>cases f<;>rfl)
@[simp] theorem AN (c b:fJ) (a:Nat):Env.get mask ⟨c,b⟩ a=if(mask>>>a)&&&1=1 then dF c a else dF b a:=by
 show @Bool.rec (λ_=>aa T) (dF b a) (dF c a) (jS mask a)=_;simp only[<-BK];cases jS mask a<;>rfl
def Jk(cx:Ctx)(cf:iG)(mask:Nat)(k:af Oper)(d:List (Nat×Nat))(i:List Oper)(g:Nat)(j:List (Nat×Nat))(f:List (Nat×H×H))(m l:fJ)(h:H)(c:fJ->H->Prop):Prop:=
 ∃a b,wj cx cf mask k d i g j f ⟨m,l⟩ h=some (a,b)/\c a.vars b
def Kw(m:af Oper)(g:List (Nat×Nat))(k:Nat)(l:List (Nat×Nat))(i:List (Nat×H×H))(b d:fJ)(h:H)(f:fJ->H->Prop):Jk cx cf mask m g [] k l i b d h f=f b h:=by
 apply propext;constructor
 ·rintro⟨e,j,a,c⟩;have a:some ((⟨b,d⟩:Env),h)=some (e,j):=a;simp only[ar,ay]at a;obtain⟨rfl,rfl⟩:=a;exact c
 ·exact λc=>⟨⟨b,d⟩,h,rfl,c⟩
def DK(cx:Ctx)(mask:Nat)(d:List (Nat×Nat))(a:Nat)(f:List (Nat×Nat))(b:List (Nat×H×H))(i:Op)(e:Env)(h j:H)(g:List (Nat×Nat)->List (Nat×H×H)->Prop):Prop:=
 if hU i=true then(u4 d a h j f/\(∀l k m c,i= .store l k m->dJ (fy cx mask e k) dL=some c->lZ d a c b))/\g f (if kU d a=true then(a,h,j)::b else b)
 else match fU cx mask e h i with
  |none=>g f b
  |some c=>lZ d a c b/\g (if kU d a=true then(a,c)::f else f) b
def HA(u:af Oper)(y:List (Nat×Nat))(j:Oper)(x:List Oper)(z:Nat)(q:List (Nat×Nat))(p:List (Nat×H×H))(b a:fJ)(h:H)(A:fJ->H->Prop):
 Jk cx cf mask u y (j::x) z q p b a h A=WG (j3 u mask ⟨b,a⟩ j.guard)
  (WX (fin cf h (iW j.op cx mask ⟨b,a⟩ h)) λk c=>DK cx mask y z q p j.op ⟨b,a⟩ h c λq p=>WD mask j.dst k b a λb a=>Jk cx cf mask u y x (z+1) q p b a c A)
  (WD mask j.dst .undef b a λb a=>Jk cx cf mask u y x (z+1) q p b a h A):=by
 have t:∀k c (q:List (Nat×Nat)) (p:List (Nat×H×H)),(∃i,Env.dst mask ⟨b,a⟩ j.dst k=some i/\Jk cx cf mask u y x (z+1) q p i.vars i.tmps c A)↔WD mask j.dst k b a λb a=>Jk cx cf mask u y x (z+1) q p b a c A:=by
  intro k c q p;cases J:j.dst with
  |none=>
   constructor
   ·rintro⟨i,f,r⟩;have f:some (⟨b,a⟩:Env)=some i:=f;simp only[ar]at f;subst f;exact r
   ·exact λr=>⟨_,rfl,r⟩
  |some v=>
   have hE:Env.dst mask ⟨b,a⟩ (some v) k=some (if jS mask v=true then⟨put b v k,a⟩else⟨b,.cons v k a⟩):=by
    show @Bool.rec (λ_=>aa Env) (some ⟨b,.cons v k a⟩) (dJ (li b v k) λx=>some ⟨x,a⟩) (jS mask v)=_;rw[oz];cases jS mask v<;>rfl
   rw[hE];unfold WD;simp only[ar,exists_eq_left'];split<;>rfl
 apply propext;constructor
 ·rintro⟨l,c,m,o⟩;unfold wj at m;rw[pZ]at m;obtain⟨⟨k,D⟩,s,E⟩:=dA.1 m;simp only[j9]at E;obtain⟨i,f,F⟩:=dA.1 E;obtain⟨C,r,g⟩:=dA.1 F;clear m E F;unfold xz at s;rw[r,dO]at s;rw[r];cases C with
  |false=>
   replace s:some (T.undef,h)=some (k,D):=s;simp only[ar,ay]at s;obtain⟨rfl,rfl⟩:=s;simp only[cd,br]at g;exact(t _ _ q p).1 ⟨i,f,l,c,g,o⟩
  |true=>
   simp only[bo]at g;refine⟨k,D,s,?_⟩;unfold DK;split
   ·rename_i hE;rw[aq hE]at g;split at g
    ·rename_i w;exact⟨w,(t _ _ _ _).1 ⟨i,f,l,c,g,o⟩⟩
    ·simp at g
   ·rename_i hE;rw[ao hE]at g;cases B:fU cx mask ⟨b,a⟩ h j.op with
    |none=>rw[B]at g;exact(t _ _ _ _).1 ⟨i,f,l,c,g,o⟩
    |some I=>
     rw[B]at g;simp only at g;split at g
     ·rename_i w;exact⟨w,(t _ _ _ _).1 ⟨i,f,l,c,g,o⟩⟩
     ·simp at g
 ·intro d;unfold Jk wj;rw[pZ];cases r:j3 u mask ⟨b,a⟩ j.guard with
  |none=>rw[r]at d;exact d.elim
  |some C=>
   rw[r]at d;have G:xz cx cf mask u ⟨b,a⟩ h j= @Bool.rec (λ_=>aa (T×H)) (some (.undef,h)) (fin cf h (iW j.op cx mask ⟨b,a⟩ h)) C:=by
    unfold xz;rw[r,dO]
   cases C with
   |false=>
    obtain⟨i,f,l,c,m,o⟩:=(t _ _ q p).2 d;refine⟨l,c,?_,o⟩;rw[G];simp only[dO,j9,f];exact m
   |true=>
    obtain⟨k,D,s,d⟩:=d;rw[G];simp only[s,dO,j9,bo];unfold DK at d;split at d
    ·rename_i hE;obtain⟨w,d⟩:=d;obtain⟨i,f,l,c,m,o⟩:=(t _ _ _ _).2 d;refine⟨l,c,?_,o⟩;rw[f,dO,aq hE,aq w];exact m
    ·rename_i hE;cases B:fU cx mask ⟨b,a⟩ h j.op with
     |none=>
      rw[B]at d;obtain⟨i,f,l,c,m,o⟩:=(t _ _ _ _).2 d;refine⟨l,c,?_,o⟩;rw[f,dO,ao hE];exact m
     |some I=>
      rw[B]at d;obtain⟨w,d⟩:=d;obtain⟨i,f,l,c,m,o⟩:=(t _ _ _ _).2 d;refine⟨l,c,?_,o⟩;rw[f,dO,ao hE];simp only;rw[aq w];exact m
def VC(l:af Oper)(f:List (Nat×Nat))(m:aa Tmp)(k:Op)(r:ab)(q:String)(p:af Edge)(j:List Oper)(g:Nat)(d:List (Nat×Nat))(c:List (Nat×H×H))(b a:fJ)(h:H)(i:fJ->H->Prop):
 Jk cx cf mask l f (⟨m,k,r,q,p,none⟩::j) g d c b a h i=
  WX (fin cf h (iW k cx mask ⟨b,a⟩ h)) λs o=>DK cx mask f g d c k ⟨b,a⟩ h o λd c=>WD mask m s b a λb a=>Jk cx cf mask l f j (g+1) d c b a o i:=HA l f _ j g d c b a h i
def RK(cx:Ctx)(cf:iG)(mask:Nat)(d:af Oper)(c:List Oper)(a f:fJ)(h:H)(b:iw):Prop:=WR cx cf mask d c a f h λa h=>b.n ⟨a,.nil⟩ h
def XK(k:aa (T×H))(cx:Ctx)(cf:iG)(mask:Nat)(i:af Oper)(d:aa Tmp)(g:List Oper)(b a:fJ)(c:iw):Prop:=WX k λj f=>WD mask d j b a λb a=>RK cx cf mask i g b a f c
def GK(j:aa Bool)(cx:Ctx)(cf:iG)(mask:Nat)(g:af Oper)(d:aa Tmp)(i:Op)(f:List Oper)(b a:fJ)(h:H)(c:iw):Prop:=
 WG j (XK (fin cf h (iW i cx mask ⟨b,a⟩ h)) cx cf mask g d f b a c) (WD mask d .undef b a λb a=>RK cx cf mask g f b a h c)
@[simp] theorem ac8 (c:af Oper) (a d:fJ) (h:H) (b:iw):RK cx cf mask c [] a d h b=b.n ⟨a,.nil⟩ h:=PF c a d h _
@[simp] theorem adG (g:af Oper) (c:aa Tmp) (f:Op) (l:ab) (k:String) (j:af Edge) (d:List Oper) (b a:fJ) (h:H) (i:iw):
 RK cx cf mask g (⟨c,f,l,k,j,none⟩::d) b a h i=XK (fin cf h (iW f cx mask ⟨b,a⟩ h)) cx cf mask g c d b a i:=aac g c f l k j d b a h _
@[simp] theorem eG (a:af Oper) (f:aa Tmp) (j:Op) (o:ab) (m:String) (l:af Edge) (g:Nat) (d:Bool) (i:List Oper) (c b:fJ) (h:H) (k:iw):
 RK cx cf mask a (⟨f,j,o,m,l,some (g,d)⟩::i) c b h k=GK (j3 a mask ⟨c,b⟩ (some (g,d))) cx cf mask a f j i c b h k:=PG a f j o m l g d i c b h _
@[simp] theorem abm (g:T) (h:H) (c:af Oper) (b:List Oper) (f d:fJ) (a:iw):XK (some (g,h)) cx cf mask c none b f d a=RK cx cf mask c b f d h a:=by
 unfold XK;rw[yu];rfl
@[simp] theorem abl (g:T) (h:H) (d:af Oper) (a:Tmp) (c:List Oper) (i f:fJ) (b:iw):XK (some (g,h)) cx cf mask d (some a) c i f b=
 if(mask>>>a)&&&1=1 then RK cx cf mask d c (put i a g) f h b else RK cx cf mask d c i (.cons a g f) h b:=by
 unfold XK;rw[yu,FD]
@[simp] theorem abx (i:af Oper) (d:aa Tmp) (g:Op) (f:List Oper) (b a:fJ) (h:H) (c:iw):GK (some true) cx cf mask i d g f b a h c=XK (fin cf h (iW g cx mask ⟨b,a⟩ h)) cx cf mask i d f b a c:=id rfl
@[simp] theorem aai (g:af Oper) (c:Tmp) (i:Op) (f:List Oper) (b a:fJ) (h:H) (d:iw):GK (some false) cx cf mask g (some c) i f b a h d=if(mask>>>c)&&&1=1 then RK cx cf mask g f (put b c .undef) a h d else RK cx cf mask g f b (.cons c .undef a) h d:=by
 show WD mask (some c) .undef b a (λb a=>RK cx cf mask g f b a h d)=_;rw[FD]
def Mw(cx:Ctx)(mask:Nat)(b:List (Nat×Nat))(d:Nat)(c:List (Nat×H×H))(f:Op)(e:Env):Prop:=match f with
 | .store _ g _=>(match dJ (fy cx mask e g) dL with|some a=>lZ b d a c|none=>True)
 |_=>True
def Tk(b:List (Nat×Nat))(d:Nat)(c:List (Nat×H×H))(f:aa Nat):Prop:=match f with|some a=>lZ b d a c|none=>True
@[simp] theorem Vw (b:List (Nat×Nat)) (d:Nat) (c:List (Nat×H×H)) (a:Nat):Tk b d c (some a)=lZ b d a c:=id rfl
@[simp] theorem A6 (a:List (Nat×Nat)) (c:Nat) (b:List (Nat×H×H)) (f:ab) (d g:ah) (e:Env):Mw cx mask a c b (.store f d g) e=Tk a c b (dJ (fy cx mask e d) dL):=id rfl
@[simp] theorem VS (b:List (Nat×Nat)) (d:Nat) (c:List (Nat×H×H)) (a:Call) (e:Env):Mw cx mask b d c (.call a) e=True:=id rfl
def RX(cx:Ctx)(cf:iG)(mask:Nat)(j:af Oper)(c:List (Nat×Nat))(g:List Oper)(f:Nat)(i:List (Nat×Nat))(d:List (Nat×H×H))(a k:fJ)(h:H)(b:iw):Prop:=Jk cx cf mask j c g f i d a k h λa h=>b.n ⟨a,.nil⟩ h
def PR(q:aa (T×H))(cx:Ctx)(cf:iG)(mask:Nat)(o:af Oper)(f:List (Nat×Nat))(k:aa Tmp)(m:Op)(l:List Oper)(i:Nat)(d:List (Nat×Nat))(c:List (Nat×H×H))(b a:fJ)(h:H)(j:iw):Prop:=
 WX q λp g=>DK cx mask f i d c m ⟨b,a⟩ h g λd c=>WD mask k p b a λb a=>RX cx cf mask o f l (i+1) d c b a g j
def P9(m:T)(cx:Ctx)(cf:iG)(mask:Nat)(l:af Oper)(d:List (Nat×Nat))(f:aa Tmp)(j:List Oper)(i:Nat)(k:List (Nat×Nat))(g:List (Nat×H×H))(b a:fJ)(h:H)(c:iw):Prop:=WD mask f m b a λb a=>RX cx cf mask l d j i k g b a h c
def DLK(p:aa Nat)(m:T)(cx:Ctx)(cf:iG)(mask:Nat)(k:af Oper)(b:List (Nat×Nat))(i:aa Tmp)(j:List Oper)(a:Nat)(d:List (Nat×Nat))(c:List (Nat×H×H))(o l:fJ)(h:H)(f:iw):Prop:=match p with
 |none=>P9 m cx cf mask k b i j (a+1) d c o l h f
 |some g=>lZ b a g c/\P9 m cx cf mask k b i j (a+1) (if kU b a=true then(a,g)::d else d) c o l h f
@[simp] theorem aap (l:T) (j:af Oper) (b:List (Nat×Nat)) (c:aa Tmp) (g:List Oper) (f:Nat) (i:List (Nat×Nat)) (d:List (Nat×H×H)) (m k:fJ) (h:H) (a:iw):DLK none l cx cf mask j b c g f i d m k h a=P9 l cx cf mask j b c g (f+1) i d m k h a:=id rfl
@[simp] theorem PS (c:Nat) (m:T) (k:af Oper) (b:List (Nat×Nat)) (i:aa Tmp) (j:List Oper) (a:Nat) (f:List (Nat×Nat)) (d:List (Nat×H×H)) (o l:fJ) (h:H) (g:iw):DLK (some c) m cx cf mask k b i j a f d o l h g=(lZ b a c d/\P9 m cx cf mask k b i j (a+1) (if kU b a=true then(a,c)::f else f) d o l h g):=id rfl
@[simp] theorem aao (l:T) (i:af Oper) (b:List (Nat×Nat)) (f:List Oper) (d:Nat) (g:List (Nat×Nat)) (c:List (Nat×H×H)) (k j:fJ) (h:H) (a:iw):P9 l cx cf mask i b none f d g c k j h a=RX cx cf mask i b f d g c k j h a:=id rfl
@[simp] theorem aan (l:T) (j:af Oper) (c:List (Nat×Nat)) (a:Tmp) (g:List Oper) (f:Nat) (i:List (Nat×Nat)) (d:List (Nat×H×H)) (m k:fJ) (h:H) (b:iw):P9 l cx cf mask j c (some a) g f i d m k h b=
 if(mask>>>a)&&&1=1 then RX cx cf mask j c g f i d (put m a l) k h b else RX cx cf mask j c g f i d m (.cons a l k) h b:=by unfold P9;rw[FD]
@[simp] theorem abE (i:af Oper) (c:List (Nat×Nat)) (f:Nat) (g:List (Nat×Nat)) (d:List (Nat×H×H)) (a j:fJ) (h:H) (b:iw):RX cx cf mask i c [] f g d a j h b=b.n ⟨a,.nil⟩ h:=Kw i c f g d a j h _
@[simp] theorem ade (l:af Oper) (d:List (Nat×Nat)) (f:aa Tmp) (a:Op) (q:ab) (p:String) (o:af Edge) (j:List Oper) (i:Nat) (k:List (Nat×Nat)) (g:List (Nat×H×H)) (c b:fJ) (h:H) (m:iw):
 RX cx cf mask l d (⟨f,a,q,p,o,none⟩::j) i k g c b h m=PR (fin cf h (iW a cx mask ⟨c,b⟩ h)) cx cf mask l d f a j i k g c b h m:=VC l d f a q p o j i k g c b h _
def DEK(q:Bool)(p:T)(d:H)(cx:Ctx)(cf:iG)(mask:Nat)(o:af Oper)(b:List (Nat×Nat))(k:aa Tmp)(m:Op)(l:List Oper)(a:Nat)(i:List (Nat×Nat))(c:List (Nat×H×H))(g f:fJ)(h:H)(j:iw):Prop:=match q with
 |true=>(u4 b a h d i/\Mw cx mask b a c m ⟨g,f⟩)/\P9 p cx cf mask o b k l (a+1) i (if kU b a=true then(a,h,d)::c else c) g f d j
 |false=>DLK (fU cx mask ⟨g,f⟩ h m) p cx cf mask o b k l a i c g f d j
@[simp] theorem PT (p:T) (d:H) (o:af Oper) (b:List (Nat×Nat)) (k:aa Tmp) (m:Op) (l:List Oper) (a:Nat) (f:List (Nat×Nat)) (c:List (Nat×H×H)) (i g:fJ) (h:H) (j:iw):DEK true p d cx cf mask o b k m l a f c i g h j=((u4 b a h d f/\Mw cx mask b a c m ⟨i,g⟩)/\P9 p cx cf mask o b k l (a+1) f (if kU b a=true then(a,h,d)::c else c) i g d j):=id rfl
@[simp] theorem L7 (p:T) (i:H) (o:af Oper) (d:List (Nat×Nat)) (f:aa Tmp) (m:Op) (k:List Oper) (j:Nat) (l:List (Nat×Nat)) (g:List (Nat×H×H)) (b a:fJ) (h:H) (c:iw):DEK false p i cx cf mask o d f m k j l g b a h c=DLK (fU cx mask ⟨b,a⟩ h m) p cx cf mask o d f k j l g b a i c:=id rfl
@[simp] theorem aam (b:T) (r:H) (u:af Oper) (i:List (Nat×Nat)) (q:aa Tmp) (a:Op) (s:List Oper) (l:Nat) (t:List (Nat×Nat)) (j:List (Nat×H×H)) (d c:fJ) (h:H) (p:iw):
 PR (some (b,r)) cx cf mask u i q a s l t j d c h p=DEK (hU a) b r cx cf mask u i q a s l t j d c h p:=by
 unfold PR;rw[yu];unfold DK;cases hE:hU a with
 |true=>
  rw[aq rfl,PT];have:(∀m f b g,a= .store m f b->dJ (fy cx mask ⟨d,c⟩ f) dL=some g->lZ i l g j)↔Mw cx mask i l j a ⟨d,c⟩:=by
   constructor
   ·intro k;cases a<;>first|exact trivial|skip
    rename_i m f b;rw[A6];cases o:dJ (fy cx mask ⟨d,c⟩ f) dL with
    |none=>exact trivial
    |some g=>exact k m f b g rfl o
   ·intro k m f b g v o;subst v;rw[A6,o]at k;exact k
  rw[this];rfl
 |false=>
  rw[ao dp,L7];cases fU cx mask ⟨d,c⟩ h a<;>rfl
section
variable (e:Env)(h:H)
@[simp] theorem SY (a:ab) (c b:ah):hU (.store a c b)=true:=id rfl
@[simp] theorem SZ (b:ah) (a:af ah) (c:af ab):hU (.call ⟨.value b,a,c⟩)=true:=id rfl
@[simp] theorem S7 (a:Builtin) (b:af ah) (c:af ab):hU (.call ⟨.builtin a,b,c⟩)=(match a with| .len| .min| .max=>false|_=>true):=id rfl
@[simp] theorem UF (a:ah):hU (.move a)=false:=id rfl
@[simp] theorem QY (a:ah):hU (.assign a)=false:=id rfl
@[simp] theorem UG (a:ab) (b:ah):hU (.load a b)=false:=id rfl
@[simp] theorem Zj (a:ah):hU (.nilCheck a)=false:=id rfl
@[simp] theorem Zn (b:ab) (c:ah) (a:Nat):hU (.fieldAddr b c a)=false:=id rfl
@[simp] theorem Zm (a:ab) (b c:ah):hU (.indexAddr a b c)=false:=id rfl
@[simp] theorem Wi (a:BinOp) (b c:ab) (d f:ah):hU (.binOp a b d f c)=false:=id rfl
@[simp] theorem S9 (a:ab):hU (.alloc a)=false:=id rfl
@[simp] theorem S8 (b:ab) (a:af (Nat×ah)):hU (.build b a)=false:=id rfl
@[simp] theorem Zp (b:ab) (n:Nat) (a:af (Nat×ah)):hU (.buildSlice b n a)=false:=id rfl
@[simp] theorem Zk (a:ab) (b c:ah):hU (.makeSlice a b c)=false:=id rfl
@[simp] theorem Zi (d:ab) (f:ah) (a b c:aa ah):hU (.slice d f a b c)=false:=id rfl
@[simp] theorem Zo (b:ah) (a:Nat):hU (.extract b a)=false:=id rfl
@[simp] theorem Zl (c:Fn) (a b:af ah):hU (.makeFunc c a b)=false:=id rfl
@[simp] theorem aaL (b:ab) (a:ah):fU cx mask e h (.load b a)=dJ (fy cx mask e a) dL:=id rfl
@[simp] theorem adA (b:ab) (a c:ah):fU cx mask e h (.indexAddr b a c)=dJ (fy cx mask e a) dL:=id rfl
@[simp] theorem adw (f:ab) (a:ah) (b c d:aa ah):fU cx mask e h (.slice f a b c d)=dJ (fy cx mask e a) dL:=id rfl
@[simp] theorem Zf (a:ab):fU cx mask e h (.alloc a)=some h.size:=id rfl
@[simp] theorem adD (b:ab) (n:Nat) (a:af (Nat×ah)):fU cx mask e h (.buildSlice b n a)=some h.size:=id rfl
@[simp] theorem ady (a:ab) (b c:ah):fU cx mask e h (.makeSlice a b c)=some h.size:=id rfl
@[simp] theorem aaK (a:ah):fU cx mask e h (.move a)=none:=id rfl
@[simp] theorem Wh (a:ah):fU cx mask e h (.assign a)=none:=id rfl
@[simp] theorem adx (a:ah):fU cx mask e h (.nilCheck a)=none:=id rfl
@[simp] theorem adB (b:ab) (c:ah) (a:Nat):fU cx mask e h (.fieldAddr b c a)=none:=id rfl
@[simp] theorem acx (a:BinOp) (b c:ab) (d f:ah):fU cx mask e h (.binOp a b d f c)=none:=id rfl
@[simp] theorem Ze (b:ab) (a:af (Nat×ah)):fU cx mask e h (.build b a)=none:=id rfl
@[simp] theorem adC (b:ah) (a:Nat):fU cx mask e h (.extract b a)=none:=id rfl
@[simp] theorem aaM (a:Call):fU cx mask e h (.call a)=none:=id rfl
@[simp] theorem adz (c:Fn) (a b:af ah):fU cx mask e h (.makeFunc c a b)=none:=id rfl
@[simp] theorem WC (a b c d:Nat):dL (.ptr a b c d)=some a:=id rfl
@[simp] theorem v7 (a b f d:Nat) (c:Bool):dL (.arr a b f d c)=some a:=id rfl
@[simp] theorem Vt (a:List T) (b:Bool):dL (.dC a b)=none:=id rfl
@[simp] theorem Vu (a:List T):dL (.je a)=none:=id rfl
@[simp] theorem WE (a:ak) (n:Int):dL (.int a n)=none:=id rfl
end
variable {dl:DL}
def QK(cx:Ctx)(cf:iG)(mask:Nat)(a:List Oper)(f:aa (List (Nat×Nat)))(c:fJ)(h:H)(b:iw):Prop:=match f with
 |none=>RK cx cf mask a.toArray a c .nil h b
 |some d=>RX cx cf mask a.toArray d a 0 [] [] c .nil h b
@[simp] theorem abv (a:List Oper) (c:fJ) (h:H) (b:iw):QK cx cf mask a none c h b=RK cx cf mask a.toArray a c .nil h b:=id rfl
@[simp] theorem abt (a:List Oper) (c:List (Nat×Nat)) (d:fJ) (h:H) (b:iw):QK cx cf mask a (some c) d h b=RX cx cf mask a.toArray c a 0 [] [] d .nil h b:=id rfl
def Tr(f:aa (Env×H))(g:iw):W (dJ f λj=>two j λb a=>some (.normal,(⟨b.vars,.nil⟩:Env),a)) g=∃b a,f=some (b,a)/\g.n ⟨b.vars,.nil⟩ a:=by
 cases f with
 |none=>apply propext;constructor<;>(first|(rintro⟨k,a,l,c,_⟩;simp[dJ]at c)|(rintro⟨k,a,c,_⟩;simp at c))
 |some i=>
  obtain⟨b,a⟩:=i;simp only[dO,j9,Cx,ar,ay];apply propext;constructor
  ·exact λd=>⟨b,a,⟨rfl,rfl⟩,d⟩
  ·rintro⟨_,_,⟨rfl,rfl⟩,d⟩;exact d
@[simp] theorem ac6 (id:Nat) (b:List Oper) (f:Bool) (c d:fJ) (h:H) (a:iw):W (jh cx cf n mask dl (.region id b.toArray f) ⟨c,d⟩ h) a=QK cx cf mask b (dl.lookup id) c h a:=by
 show W (MK cx cf mask dl id b.toArray ⟨c,d⟩ h) a=_;unfold MK;cases dl.lookup id with
 |none=>exact Tr _ a
 |some g=>exact Tr _ a
@[simp] theorem ac4 (b c:Code) (e:Env) (h:H) (a:iw):W (jh cx cf n mask dl (.seq b c) e h) a=W (jh cx cf n mask dl b e h) (EJ (jh cx cf n mask dl c) a):=Z7 _ _ e h a
@[simp] theorem Z9 (id:Nat) (b:Code) (e:Env) (h:H) (a:iw):W (jh cx cf n mask dl (.block id b) e h) a=W (jh cx cf n mask dl b e h) (qR id a):=RM id _ e h a
def CK(d:aa T)(cx:Ctx)(cf:iG)(n mask:Nat)(dl:DL)(b c:Code)(e:Env)(h:H)(a:iw):Prop:=OO d (W (jh cx cf n mask dl b e h) a) (W (jh cx cf n mask dl c e h) a)
@[simp] theorem fj (d:Bool) (b c:Code) (e:Env) (h:H) (a:iw):CK (some (.bool d)) cx cf n mask dl b c e h a=if d=true then W (jh cx cf n mask dl b e h) a else W (jh cx cf n mask dl c e h) a:=id rfl
@[simp] theorem abq (a:Nat) (f g:Code) (c b:fJ) (h:H) (d:iw):W (jh cx cf n mask dl (.cond (.tmp a) f g) ⟨c,b⟩ h) d=CK (if(mask>>>a)&&&1=1 then dF c a else dF b a) cx cf n mask dl f g ⟨c,b⟩ h d:=by
 rw[<-AN];apply propext;unfold CK;show W (dJ (Env.get mask ⟨c,b⟩ a) λi=>_) d↔_;cases Env.get mask ⟨c,b⟩ a with
 |none=>simp[dJ,OO,Pz]
 |some i=>
  simp only[dO];cases i<;>simp only[OO,Pz];rename_i j;cases j<;>simp
@[simp] theorem abo (b:Code) (e:Env) (h:H) (a:iw):W (jh cx cf n mask dl (.loop b) e h) a=W (nH (jh cx cf n mask dl b) n e h) a:=rfl
@[simp] theorem abn (e:Env) (h:H) (a:iw):W (jh cx cf n mask dl .skip e h) a=a.n e h:=Cx e h a
@[simp] theorem abp (id:Nat) (e:Env) (h:H) (a:iw):W (jh cx cf n mask dl (.exit id) e h) a=a.x id e h:=Cy id e h a
@[simp] theorem ac5 (e:Env) (h:H) (a:iw):W (jh cx cf n mask dl .ret e h) a=a.r e h:=Tq e h a
end
end
end Go.TI
