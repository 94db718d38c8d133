/- Texts TiQuick to TiSpec. -/
import Derived.Test.YtmaeadedikngoaaGreatDoorA6
import Derived.KernelRfl
set_option linter.all false
namespace Go.TI
noncomputable section
def Xf(a:Fun):Code:=Option.casesOn a.fn.body .skip λb=>b
section
variable {mask nt:Nat}{K:List Nat}{pre:List T}
end
section
variable {P:List T->Prop}
end
end
noncomputable section
mutual
def xS:T->T->Bool
 | .undef,a=>(match a with| .undef=>true|_=>false)
 | .bool y,a=>(match a with| .bool n=>Bool.casesOn y (!n) n|_=>false)
 | .int o q,a=>(match a with| .int p r=>decide (o=p)&&decide (q=r)|_=>false)
 | .str s,a=>(match a with| .str t=>decide (s=t)|_=>false)
 | .kw,a=>(match a with| .kw=>true|_=>false)
 | .kK,a=>(match a with| .kK=>true|_=>false)
 | .kM,a=>(match a with| .kM=>true|_=>false)
 | .nR,a=>(match a with| .nR=>true|_=>false)
 | .gu,a=>(match a with| .gu=>true|_=>false)
 | .ptr a h j l,b=>(match b with| .ptr d i k m=>Nat.beq a d&&Nat.beq h i&&Nat.beq j k&&Nat.beq l m|_=>false)
 | .arr a h j l g,b=>(match b with| .arr d i k m c=>Nat.beq a d&&Nat.beq h i&&Nat.beq j k&&Nat.beq l m&&Bool.casesOn g (!c) c|_=>false)
 | .map a,b=>(match b with| .map d=>Nat.beq a d|_=>false)
 | .dN e g,b=>(match b with| .dN f c=>A5 e f&&Bool.casesOn g (!c) c|_=>false)
 | .agg e,b=>(match b with| .agg f=>A5 e f|_=>false)
 | .func g e,b=>(match b with| .func c f=>Nat.beq g c&&A5 e f|_=>false)
 | .iface u w,b=>(match b with| .iface v x=>Nat.beq u v&&xS w x|_=>false)
 |_,_=>false
def A5:List T->List T->Bool
 | [],a=>(match a with| []=>true|_=>false)
 |x::b,a=>(match a with|y::c=>xS x y&&A5 b c|_=>false)
end
def Kg{b a:Bool}(c:(@Bool.rec (λ_=>Bool) (!a) a b)=true):b=a:=by cases b<;>cases a<;>simp_all
mutual
def JV:(h b:T)->xS h b=true->h=b
 | .undef,b,a=>by cases b<;>first|rfl|simp[xS]at a
 | .bool z,b,a=>by
  cases b<;>first|(simp[xS]at a;done)|skip
  rename_i n;have a:(@Bool.rec (λ_=>Bool) (!n) n z)=true:=by unfold xS at a;exact a
  rw[Kg a]
 | .int A B,b,a=>by cases b<;>simp[xS]at a;obtain⟨rfl,rfl⟩:=a;rfl
 | .str C,b,a=>by cases b<;>simp[xS]at a;subst a;rfl
 | .kw,b,a=>by cases b<;>first|rfl|simp[xS]at a
 | .kK,b,a=>by cases b<;>first|rfl|simp[xS]at a
 | .kM,b,a=>by cases b<;>first|rfl|simp[xS]at a
 | .nR,b,a=>by cases b<;>first|rfl|simp[xS]at a
 | .gu,b,a=>by cases b<;>first|rfl|simp[xS]at a
 | .ptr b i j k,c,a=>by cases c<;>simp[xS]at a;obtain⟨⟨⟨rfl,rfl⟩,rfl⟩,rfl⟩:=a;rfl
 | .arr b i j k g,c,a=>by
  cases c<;>first|(simp[xS]at a;done)|skip
  rename_i o p v w f;have a:(Nat.beq b o&&Nat.beq i p&&Nat.beq j v&&Nat.beq k w&& @Bool.rec (λ_=>Bool) (!f) f g)=true:=by unfold xS at a;exact a
  simp only[ay]at a;obtain⟨⟨⟨⟨q,r⟩,s⟩,t⟩,u⟩:=a;rw[aD q,aD r,aD s,aD t,Kg u]
 | .map b,c,a=>by cases c<;>simp[xS]at a;subst a;rfl
 | .dN d g,c,a=>by
  cases c<;>first|(simp[xS]at a;done)|skip
  rename_i e f;have a:(A5 d e&& @Bool.rec (λ_=>Bool) (!f) f g)=true:=by unfold xS at a;exact a
  simp only[ay]at a;rw[Bp d e a.1,Kg a.2]
 | .agg d,c,a=>by
  cases c<;>first|(simp[xS]at a;done)|skip
  rename_i e;have a:A5 d e=true:=by unfold xS at a;exact a
  rw[Bp d e a]
 | .func g d,c,a=>by
  cases c<;>first|(simp[xS]at a;done)|skip
  rename_i f e;have a:(Nat.beq g f&&A5 d e)=true:=by unfold xS at a;exact a
  simp only[ay]at a;rw[aD a.1,Bp d e a.2]
 | .iface x l,c,a=>by
  cases c<;>first|(simp[xS]at a;done)|skip
  rename_i y m;have a:(Nat.beq x y&&xS l m)=true:=by unfold xS at a;exact a
  simp only[ay]at a;rw[aD a.1,JV l m a.2]
 | .jB _,b,a=>by simp[xS]at a
 | .iter _,b,a=>by simp[xS]at a
 | .tuple _,b,a=>by simp[xS]at a
def Bp:(c b:List T)->A5 c b=true->c=b
 | [],b,a=>by cases b<;>first|rfl|simp[A5]at a
 |x::d,b,a=>by
  cases b<;>first|(simp[A5]at a;done)|skip
  rename_i e f;have a:(xS x e&&A5 d f)=true:=by unfold A5 at a;exact a
  simp only[ay]at a;rw[JV x e a.1,Bp d f a.2]
end
structure Ent where
 f:Nat
 args:List T
 h:H
 r:T
 h':H
def qA(d:ai)(cx:Ctx)(a:Ent):Prop:=
 ∀e b c (g:af am),St cx e b.heap c a.h->gJ b.heap c a.args g.toList->ze d (qB cx e b c a.h a.r a.h') ((callFunc a.f g).run d b)
mutual
def mW:T->Bool
 | .undef| .bool _| .int _ _| .str _| .kw| .gu| .kK| .kM| .nR=>true
 | .dN a _=>mJ a
 | .agg a=>mJ a
 | .tuple a=>mJ a
 | .jB a=>mJ a
 | .func _ a=>mJ a
 | .iface _ b=>mW b
 |_=>false
def mJ:List T->Bool
 | []=>true
 |x::a=>mW x&&mJ a
end
mutual
def Cm:(c:T)->mW c=true->pP 0 c
 | .undef,_=> .undef
 | .bool _,_=> .bool _
 | .int _ _,_=> .int _ _
 | .str _,_=> .str _
 | .kw,_=> .kw
 | .gu,_=> .gu
 | .kK,_=> .kK
 | .kM,_=> .kM
 | .nR,_=> .nR
 | .dN b h,a=> .dN _ _ λc f=>by
  obtain⟨d,e,g⟩:=List.mem_flatMap.1 f;exact(lN b (by unfold mW at a;exact a) d e).cells c g
 | .agg b,a=> .agg _ (lN b (by unfold mW at a;exact a))
 | .tuple b,a=> .tuple _ (lN b (by unfold mW at a;exact a))
 | .jB b,a=> .jB _ (lN b (by unfold mW at a;exact a))
 | .func _ b,a=> .func _ _ (lN b (by unfold mW at a;exact a))
 | .iface _ c,a=> .iface _ _ (Cm c (by unfold mW at a;exact a))
 | .ptr _ _ _ _,a=>by simp[mW]at a
 | .arr _ _ _ _ _,a=>by simp[mW]at a
 | .iter _,a=>by simp[mW]at a
 | .map _,a=>by simp[mW]at a
def lN:(d:List T)->mJ d=true->∀c∈d,pP 0 c
 | [],_=>λc a=>by simp at a
 |x::g,b=>λc a=>by
  unfold mJ at b;rw[ay]at b;have e:=Cm x b.1;rcases List.mem_cons.1 a with f|a
  ·rw[f];exact e
  ·exact lN g b.2 c a
end
def fD.move{y:af Obj}{z A:Mu}{b:T}{l:am}(a:fD y z b l)(x:∀n,nz A n->nz z n)(hl:pP 0 b):fD y A b l:=by
 induction a with
 |undef=>exact .undef
 |bool h=>exact .bool h
 |int c J=>exact .int c J
 |str K a=>exact .str K a
 |kw=>exact .kw
 |ptr h D n P o g s G O=>cases hl with|ptr _ _ _ _ a=>omega
 |jB r p off arr k fz u t f j hr e=>
  cases hl with|jB _ a=>exact .jB r p off arr k fz (λc=>u (x _ c)) t f j λc b d=>e c b d (a b (ax d))
 |nM m g=>exact .nM m g
 |dN C E m p off q L arr k fz u t w H I f j hr e=>
  cases hl with|dN _ _ a=>exact .dN C E m p off q L arr k fz (λc=>u (x _ c)) t w H I f j λc b d=>e c b d (a b (ax d))
 |gu g q=>exact .gu g q
 |arr h D R Q m o g N s G w v=>cases hl with|arr _ _ _ _ _ a=>omega
 |func F B i f hr e=>cases hl with|func _ _ a=>exact .func F B i f λc b d=>e c b d (a b (ax d))
 |kK=>exact .kK
 |kM=>exact .kM
 |iface k b l a e=>cases hl with|iface _ _ a=>exact .iface k b l (e a)
 |iter h o g s v=>cases hl with|iter _ a=>omega
 |map h o n s v=>cases hl with|map _ a=>omega
 |nR=>exact .nR
 |agg r i f j hr e=>cases hl with|agg _ a=>exact .agg r i f j λc b d=>e c b d (a b (ax d))
 |tuple M i f hr e=>cases hl with|tuple _ a=>exact .tuple M i f λc b d=>e c b d (a b (ax d))
def kY(d:ai)(cx:Ctx)(h:Nat)(g:List T)(i:T):Prop:=
 ∀e a c (f:af am) (b:H),St cx e a.heap c b->gJ a.heap c g f.toList->ze d (qB cx e a c b i b) ((callFunc h f).run d a)
def yt{s:ai}{cx:Ctx}{u:Nat}{k:List T}{y:T}(hl:∀i∈k,pP 0 i)(C:qA s cx ⟨u,k,⟨0,0,[]⟩,y,⟨0,0,[]⟩⟩):kY s cx u k y:=by
 intro O h f t P e v;have q:∀b,nz ⟨λ_=>none,nz f⟩ b->nz f b:=by
  rintro b (⟨d,c,a,_⟩|hr)
  ·simp at a
  ·exact hr
 have D:∀b,nz f b->b<h.heap.size:=by
  rintro b (⟨d,c,a,rfl⟩|hr)
  ·exact e.lt a
  ·exact e.qF b hr
 have J:St cx h.heap.size h.heap ⟨λ_=>none,nz f⟩ ⟨0,0,[]⟩:=by
  refine⟨rfl,au _,λd c a=>by simp at a,λd N c M a=>by simp at a,λd c a=>by simp at a,λd c a=>by simp at a,λb hr=>D b hr,λn m p=> ?_⟩;have:=e.yM n m p;refine this.move q ?_;obtain⟨_,_,_,_,_,_,_,_,_,G,_⟩:=this.lO;exact .jB _ λi l=>(G i l).2.low 0
 have A:gJ h.heap ⟨λ_=>none,nz f⟩ k t.toList:=⟨v.1,λr i l=>(v.2 r i l).move q (hl i (ax l))⟩;refine(C h.heap.size h ⟨λ_=>none,nz f⟩ t J A).mono λi z ⟨⟨L,x,I,g,Q⟩,R⟩=> ?_;have F:∀b,nz f b->nz L b:=λb j=> .inr (by rw[g.ext.pi];exact j);have o:Ext h.heap f z.heap f:=by
  refine⟨g.ext.size,λb j w=>⟨(g.ext.nJ b j (λr=>w (q b r))).1,w⟩,λd c a=>⟨c,a,.inl rfl⟩,rfl,λb j hr=> ?_⟩;exact g.ext.kept b j (.inr hr)
 have B:∀d c,f d=some c->z.heap[c.iR]? =h.heap[c.iR]? :=λd c a=>g.ext.kept c.iR (e.lt a) (.inl ⟨d,c,a,rfl⟩);refine⟨⟨f,x.move F (x.low λd c a=>I.eJ a),⟨e.wf,aS e.fit g.ext.size,λd c a=> ?_,e.inj,e.low,e.apart,λb hr=>bG (e.qF b hr) g.ext.size,λn m p=>(e.yM n m p).ext o⟩,⟨o,g.os,g.tape,g.output⟩,ye.refl _ _⟩,kW.refl e.wf⟩;obtain⟨K,H,E⟩:=e.box d c a;exact⟨K,H,E.ext o (B d c a)⟩
def AP:List T->List T->Bool
 | [],a=>(match a with| []=>true|_=>false)
 |x::b,a=>(match a with|y::c=>AP b c&&xS x y|_=>false)
def PP:∀(c a:List T),AP c a=true->c=a:=by
 intro c;induction c with
 |nil=>intro a b;cases a<;>first|rfl|simp[AP]at b
 |cons f g d=>
  intro a b;cases a with
  |nil=>simp[AP]at b
  |cons h e=>
   simp only[AP,ay]at b;rw[JV _ _ b.2,d e b.1]
abbrev vk:=List (Nat×List (List T×T))
def ES(e:List (List T×T))(b:List T):aa T:=
 @List.rec (List T×T) (λ_=>aa T) none (λc _ d=>Prod.casesOn c λa f=> @Bool.rec (λ_=>aa T) d (some f) (AP b a)) e
def AO(h:vk)(d:Nat)(b:List T):aa T:=
 @List.rec (Nat×List (List T×T)) (λ_=>aa T) none (λc _ a=>Prod.casesOn c λe f=> @Bool.rec (λ_=>aa T) a (Option.casesOn (ES f b) a λg=>some g) (Nat.beq d e)) h
inductive yd (P:ai) (cx:Ctx):vk->Prop where
 |nil:yd P cx []
 |new {f:Nat} {t:vk}:yd P cx t->yd P cx ((f,[])::t)
 |ent {f:Nat} {a:List T} {r:T} {l:List (List T×T)} {t:vk}:kY P cx f a r->yd P cx ((f,l)::t)->yd P cx ((f,(a,r)::l)::t)
def yd.mem{g:ai}{cx:Ctx}{h:vk}(c:yd g cx h):∀b d,(b,d)∈h->∀a e,(a,e)∈d->kY g cx b a e:=by
 induction c with
 |nil=>intro b d c;simp at c
 |new _ f=>
  intro b d c a e hr;rcases List.mem_cons.1 c with k|k
  ·simp only[az]at k;obtain⟨_,rfl⟩:=k;simp at hr
  ·exact f b d k a e hr
 |ent i _ f=>
  intro b d c a e hr;rcases List.mem_cons.1 c with k|k
  ·simp only[az]at k;obtain⟨rfl,rfl⟩:=k;rcases List.mem_cons.1 hr with q|q
   ·simp only[az]at q;obtain⟨rfl,rfl⟩:=q;exact i
   ·exact f _ _ (dt ..) a e q
  ·exact f b d (cG _ k) a e hr
def MT{c:List (List T×T)}{b:List T}{d:T}(a:ES c b=some d):(b,d)∈c:=by
 induction c with
 |nil=>simp[ES]at a
 |cons g c h=>
  obtain⟨f,r1⟩:=g;have a: @Bool.rec (λ_=>aa T) (ES c b) (some r1) (AP b f)=some d:=a;cases e:AP b f with
  |false=>rw[e]at a;exact cG _ (h a)
  |true=>
   rw[e]at a;have a:some r1=some d:=a;simp only[ar]at a;subst a;rw[PP _ _ e];exact dt ..
def MR{e:vk}{c:Nat}{b:List T}{d:T}(a:AO e c b=some d):∃f,(c,f)∈e/\(b,d)∈f:=by
 induction e with
 |nil=>simp[AO]at a
 |cons l e o=>
  obtain⟨h,f⟩:=l;have a: @Bool.rec (λ_=>aa T) (AO e c b) (@Option.rec T (λ_=>aa T) (AO e c b) (λd=>some d) (ES f b)) (Nat.beq c h)=some d:=a;have k:AO e c b=some d->∃g,(c,g)∈(h,f)::e/\(b,d)∈g:=λp=>by
   obtain⟨g,m,n⟩:=o p;exact⟨g,cG _ m,n⟩
  cases j:Nat.beq c h with
  |false=>rw[j]at a;exact k a
  |true=>
   rw[j]at a;cases i:ES f b with
   |none=>rw[i]at a;exact k a
   |some q=>
    rw[i]at a;have a:some q=some d:=a;simp only[ar]at a;subst a;rw[aD j];exact⟨f,dt ..,MT i⟩
def Pw(h:vk)(ft:aj->aa qm):aj->aa qm:=λb=>
 Option.casesOn (ft b) none λe=>some λd f a c=>Option.casesOn (AO h b a) (e d f a c) λg=>some (g,c)
def Pv{i:ai}{cx:Ctx}{h:vk}{ft:aj->aa qm}(y:yd i cx h)(z:∀a c,ft a=some c->mg i cx a c):∀a c,Pw h ft a=some c->mg i cx a c:=by
 intro a c d;unfold Pw at d;cases k:ft a with
 |none=>rw[k]at d;simp at d
 |some o=>
  rw[k]at d;simp only[ar]at d;subst d;intro n v q e f g j b l t u m s p;have b: @Option.rec T (λ_=>aa (T×H)) (o n q e f) (λg=>some (g,f)) (AO h a e)=some (g,j):=b;cases hE:AO h a e with
  |none=>rw[hE]at b;exact z a o k n v q e f g j b l t u m s p
  |some r=>
   rw[hE]at b;have b:some (r,f)=some (g,j):=b;simp only[ar,az]at b;obtain⟨rfl,rfl⟩:=b;obtain⟨A,w,x⟩:=MR hE;exact y.mem a A w e r x l t u m f s p
def xn(b:vk)(ft:aj->aa qm)(a:Nat):iX:=Im (Pw b ft) a
def Il{a:ai}{cx:Ctx}{e:vk}{ft:aj->aa qm}(f:yd a cx e)(g:∀b c,ft b=some c->mg a cx b c)(d:Nat):nH a cx (xn e ft d):=AQ (Pv f g) d
def yd.next{c:ai}{cx:Ctx}{f:vk}{ft:aj->aa qm}(n:∀a g,ft a=some g->mg c cx a g){i:Nat}{a:Nat}{d:List (List T×T)}(h:yd c cx ((a,d)::f)){b:List T}{e:T}
 (hl:mJ b=true) (m:xn ((a,d)::f) ft i a b ⟨0,0,[]⟩=some (e,⟨0,0,[]⟩)):yd c cx ((a,(b,e)::d)::f):=
 .ent (yt (lN b hl) λj p q k o l=>Il h n i a b ⟨0,0,[]⟩ e ⟨0,0,[]⟩ m j p q k o l) h
def put(a:fX)(b:Nat)(d:T):fX:=(lK a b d).getD a
def pf(e:fX)(a:Nat)(d:T):lK e a d=some (put e a d):=by
 have:∃c,lK e a d=some c:=by
  induction e with
  |nil=>exact⟨_,rfl⟩
  |cons b h c i=>
   obtain⟨f,ht⟩:=i;cases g:Nat.beq b a with
   |true=>exact⟨.cons b d c,by show @Bool.rec (λ_=>aa fX) _ _ (Nat.beq b a)=_;rw[g]⟩
   |false=>exact⟨.cons b h f,by show @Bool.rec (λ_=>aa fX) (dV (lK c a d) λf=>some (.cons b h f)) _ (Nat.beq b a)=_;rw[g,ht];rfl⟩
 obtain⟨c,hr⟩:=this;rw[hr];unfold put;rw[hr];rfl
def lz(b:Nat)(d:T)(c:fX)(a:Nat):dO (.cons b d c) a=if b=a then some d else dO c a:=by
 show @Bool.rec (λ_=>aa T) (dO c a) (some d) (Nat.beq b a)=_;cases e:Nat.beq b a with
 |true=>rw[aq (aD e)]
 |false=>rw[ao (cP e)]
def EG(a:Nat):dO .nil a=none:=rfl
def Pz(g:fX)(b:Nat)(c:T)(j:Nat):dO (put g b c) j=if b=j then some c else dO g j:=by
 have a:=pf g b c;generalize put g b c=f at a;induction g generalizing f with
 |nil=>
  have a:some (fX.cons b c .nil)=some f:=a;simp only[ar]at a;subst a;rw[lz,EG]
 |cons e k d l=>
  have a: @Bool.rec (λ_=>aa fX) (dV (lK d b c) λd=>some (.cons e k d)) (some (.cons e c d)) (Nat.beq e b)=some f:=a;cases h:Nat.beq e b with
  |true=>
   rw[h]at a;have a:some (fX.cons e c d)=some f:=a;simp only[ar]at a;subst a;have:=aD h;subst this;simp only[lz];split<;>rfl
  |false=>
   rw[h]at a;have a:(dV (lK d b c) λd=>some (fX.cons e k d))=some f:=a;rw[pf]at a;simp only[dY,ar]at a;subst a;have:=cP h;rw[lz,lz,l _ (pf _ _ _)];split
   ·rename_i i;subst i;rw[ao (λi=>this i.symm)]
   ·rfl
structure iO where
 n:Env->H->Prop
 x:Nat->Env->H->Prop
 r:Env->H->Prop
def W(f:Out)(c:iO):Prop:=∃d a b,f=some (d,a,b)/\Ex.casesOn d (c.n a b) (λe=>c.x e a b) (c.r a b)
@[simp] theorem De (a:Env) (b:H) (d:iO):W (some (.normal,a,b)) d=d.n a b:=by
 apply propext;constructor
 ·rintro⟨h,f,g,e,c⟩;simp only[ar,az]at e;obtain⟨rfl,rfl,rfl⟩:=e;exact c
 ·exact λc=>⟨_,a,b,rfl,c⟩
@[simp] theorem Df (f:Nat) (a:Env) (b:H) (d:iO):W (some (.exit f,a,b)) d=d.x f a b:=by
 apply propext;constructor
 ·rintro⟨i,g,h,e,c⟩;simp only[ar,az]at e;obtain⟨rfl,rfl,rfl⟩:=e;exact c
 ·exact λc=>⟨_,a,b,rfl,c⟩
@[simp] theorem UO (a:Env) (b:H) (d:iO):W (some (.ret,a,b)) d=d.r a b:=by
 apply propext;constructor
 ·rintro⟨h,f,g,e,c⟩;simp only[ar,az]at e;obtain⟨rfl,rfl,rfl⟩:=e;exact c
 ·exact λc=>⟨_,a,b,rfl,c⟩
def QU(a:iO):¬W none a:=by rintro⟨e,c,d,b,_⟩;simp at b
def Fx(b:Env->H->Out)(a:iO):iO:=⟨λc d=>W (b c d) a,a.x,a.r⟩
def rR(id:Nat)(a:iO):iO:=⟨a.n,λd b c=>if d=id then a.n b c else a.x d b c,a.r⟩
def xO(b:Env->H->Prop)(a:iO):iO:=⟨b,a.x,a.r⟩
@[simp] theorem aee (b:Env->H->Out) (a:iO) (c:Env) (d:H):(Fx b a).n c d=W (b c d) a:=rfl
@[simp] theorem V1 (e:Env->H->Out) (a:iO) (d:Nat) (b:Env) (c:H):(Fx e a).x d b c=a.x d b c:=rfl
@[simp] theorem aed (d:Env->H->Out) (a:iO) (b:Env) (c:H):(Fx d a).r b c=a.r b c:=rfl
@[simp] theorem aaN (id:Nat) (a:iO) (b:Env) (c:H):(rR id a).n b c=a.n b c:=rfl
@[simp] theorem yJ (id:Nat) (a:iO) (d:Nat) (b:Env) (c:H):(rR id a).x d b c=if d=id then a.n b c else a.x d b c:=rfl
@[simp] theorem aaM (id:Nat) (a:iO) (b:Env) (c:H):(rR id a).r b c=a.r b c:=rfl
@[simp] theorem aeh (a:Env->H->Prop) (d:iO) (b:Env) (c:H):(xO a d).n b c=a b c:=rfl
@[simp] theorem aef (e:Env->H->Prop) (a:iO) (d:Nat) (b:Env) (c:H):(xO e a).x d b c=a.x d b c:=rfl
@[simp] theorem aeg (d:Env->H->Prop) (a:iO) (b:Env) (c:H):(xO d a).r b c=a.r b c:=rfl
@[simp] theorem abD (c e:Env->H->Out) (a:Env) (b:H) (d:iO):W (BR c e a b) d=W (c a b) (Fx e d):=by
 apply propext;unfold BR;cases k:c a b with
 |none=>constructor<;>(rintro⟨f,a,b,g,_⟩;simp[dV]at g)
 |some h=>
  obtain⟨f,i,j⟩:=h;simp only[dY,kP];cases f<;>simp
@[simp] theorem To (id:Nat) (g:Env->H->Out) (b:Env) (d:H) (a:iO):W (x6 id g b d) a=W (g b d) (rR id a):=by
 apply propext;unfold x6;cases l:g b d with
 |none=>constructor<;>(rintro⟨i,b,d,j,_⟩;simp[dV]at j)
 |some k=>
  obtain⟨i,c,e⟩:=k;simp only[dY,kP];cases i with
  |normal=>simp
  |ret=>simp
  |exit f=>
   show W (@Bool.rec (λ_=>Out) (some (.exit f,c,e)) (some (.normal,c,e)) (Nat.beq f id)) a↔_;cases h:Nat.beq f id with
   |true=>
    show W (some (.normal,c,e)) a↔_;rw[De,Df,yJ,aq (aD h)]
   |false=>
    show W (some (.exit f,c,e)) a↔_;rw[Df,Df,yJ,ao (cP h)]
def Qa(d:aa T)(a b:Prop):Prop:=match d with
 |some (.bool c)=>if c=true then a else b
 |_=>False
def QW{σ:Type}{g:Env->H->Out}(I:σ->Env->H->Prop)(m:σ->Nat){i:iO}
 (r:∀c a b,I c a b->W (g a b) (xO (λe f=>∃h,m h<m c/\I h e f) i)):
 ∀d c a b,m c<d->I c a b->W (oo g d a b) i:=by
 intro d;induction d with
 |zero=>intro c a b t;omega
 |succ d u=>
  intro c a b t p;obtain⟨k,n,o,s,j⟩:=r c a b p;show W (dV (g a b) λv=>three v λk e f=> @Ex.rec (λ_=>Out) (oo g d e f) (λl=>some (.exit l,e,f)) (some (.ret,e,f)) k) i;rw[s];simp only[dY,kP];cases k with
  |normal=>
   obtain⟨h,w,q⟩:=j;exact u h n o dB q
  |exit l=>exact(Df _ _ _ _).mpr j
  |ret=>exact(UO _ _ _).mpr j
section
variable {P:ai}{cx:Ctx}
end
end
noncomputable section
@[simp] theorem acy (c:iX) (d a:H) (b:T):fin c d (some (.val b a))=some (b,a):=rfl
@[simp] theorem abh (b:iX) (d:H) (c:aj) (a:List T):fin b d (some (.call c a))=b c a d:=rfl
@[simp] theorem yh (a:H) (b:T):val a (some b)=some (.val b a):=rfl
@[simp] theorem Au (a:H) (b:T):jz (some (b,a))=some (.val b a):=rfl
def Sx(a b:List Nat):UE a b=decide (a=b):=by rw[F7,br];simp
def Sy(a b:Int):Rk a b=decide (a=b):=by rw[xU];rfl
def wF(a b:Int):K2 a b=decide (a<b):=xM a b
@[simp] theorem rS (a:ak):Dk a a=true:=by cases a<;>rfl
@[simp] theorem Wn (d a:ak) (b c:Int):rZ (.int d) (.int a b) (.int a c)=some (decide (b=c)):=by
 show gh (Dk a a) (some (Rk b c))=_;rw[rS,Sy];rfl
@[simp] theorem Wm (a b:List Nat):rZ .str (.str a) (.str b)=some (decide (a=b)):=by
 show some (UE a b)=_;rw[Sx]
@[simp] theorem UF (a b:Bool):rZ .bool (.bool a) (.bool b)=some (a==b):=by cases a<;>cases b<;>rfl
@[simp] theorem Yn (a:ak) (b c:Int):binop .lss (.int a b) (.int a c)=some (.bool (decide (b<c))):=by
 show gh (Dk a a) (w9 (K2 b c))=_;rw[rS,wF,ir,rK]
@[simp] theorem Yo (a:ak) (b c:Int):binop .leq (.int a b) (.int a c)=some (.bool (decide (b<=c))):=by
 show gh (Dk a a) (w9 (!K2 c b))=_;rw[rS,wF,ir,rK];congr 2;rw[br];simp
@[simp] theorem Yp (a:ak) (b c:Int):binop .gtr (.int a b) (.int a c)=some (.bool (decide (c<b))):=by
 show gh (Dk a a) (w9 (K2 c b))=_;rw[rS,wF,ir,rK]
@[simp] theorem Yq (a:ak) (b c:Int):binop .geq (.int a b) (.int a c)=some (.bool (decide (c<=b))):=by
 show gh (Dk a a) (w9 (!K2 b c))=_;rw[rS,wF,ir,rK];congr 2;rw[br];simp
def jL{a:Int}(d: -9223372036854775808<=a)(c:a<9223372036854775808):Ku .i64 a=a:=by
 cases a with
 |ofNat b=>
  show @Bool.rec (λ_=>Int) _ _ (Nat.ble b 9223372036854775807)=_;rw[cd (by simp at c;omega)]
 |negSucc b=>
  show @Bool.rec (λ_=>Int) _ _ (Nat.ble b 9223372036854775807)=_;rw[cd dB]
def G4{a:Int}(b: -9223372036854775808<=a)(c:a<9223372036854775808):pU .i64 a=some (.int .i64 a):=by
 unfold pU;rw[jL b c,oH]
def iy{a b:Int}(c: -9223372036854775808<=a+b)(d:a+b<9223372036854775808):binop .add (.int .i64 a) (.int .i64 b)=some (.int .i64 (a+b)):=G4 c d
def kN{a b:Int}(c: -9223372036854775808<=a-b)(d:a-b<9223372036854775808):binop .sub (.int .i64 a) (.int .i64 b)=some (.int .i64 (a-b)):=G4 c d
def Ki{a b:Nat}(c:a<b)(d:b<9223372036854775808):binop .add (.int .i64 (a:Int)) (.int .i64 1)=some (.int .i64 ((a+1:Nat):Int)):=by
 rw[iy dB dB];rfl
@[simp] theorem YE (a:Bool):unop .not (.bool a)=some (.bool !a):=by cases a<;>rfl
def PC{b:Type}(a:List b):kR a=a.length:=jH a
@[simp] theorem X1 (b:H) (a:List T) (c:Bool):aeb b (.dN a c)=some (.val (.int .i64 (a.length:Nat)) b):=by
 show val b (dV (hU (kR a)) λd=>some (.int .i64 (.ofNat d)))=_;rw[PC,iE];rfl
@[simp] theorem Yf (a:List Nat):(T.str a).cells=[.str a]:=id rfl
@[simp] theorem Yh (a:ak) (b:Int):(T.int a b).cells=[.int a b]:=id rfl
@[simp] theorem WM (a:Bool):(T.bool a).cells=[.bool a]:=id rfl
@[simp] theorem Yj (a:List T):(T.agg a).cells=a:=id rfl
@[simp] theorem uV (a b:Nat):Nat.beq a b=decide (a=b):=by
 rw[br];simp
@[simp] theorem Lx (a b:Nat):Nat.ble a b=decide (a<=b):=by
 rw[br];simp
@[simp] theorem Td (a b:Nat):Nat.blt a b=decide (a<b):=by
 rw[br,aH];simp
@[simp] theorem aa2 (a:List Nat):(T.str a).im=true:=id rfl
@[simp] theorem aa4 (a:ak) (b:Int):(T.int a b).im=true:=id rfl
@[simp] theorem X7 (a:Bool):(T.bool a).im=true:=id rfl
@[simp] theorem X6 (a:List T) (b:Bool):(T.dN a b).im=true:=id rfl
@[simp] theorem aa6 (a:List T):(T.agg a).im=true:=id rfl
@[simp] theorem abi (off:Nat) (b:H) (a:List T):faV off b (.jB a)=dV (jX off a) λc=>some (lH.val (.jB c) b):=rfl
@[simp] theorem X0 (c:H) (b:Ty) (a:List T):c.load b (.jB a)=ko b a:=rfl
@[simp] theorem acI {b:Type} (a:List b):jX 0 a=some a:=rfl
@[simp] theorem acH {c:Type} (b:Nat) (d:c) (a:List c):jX (b+1) (d::a)=jX b a:=rfl
@[simp] theorem ab0 {b:Type} (a:List b):takeN 0 a=some []:=rfl
@[simp] theorem abZ {d:Type} (b:Nat) (c:d) (a:List d):takeN (b+1) (c::a)=dV (takeN b a) λe=>some (c::e):=rfl
@[simp] theorem Ya (a:H) (c:List T) (b:Nat):exV a (.tuple c) b=val a (md c b):=rfl
end
noncomputable section
open Classical in
@[simp] theorem EF:mJ []=true:=by unfold mJ;rfl
@[simp] theorem Ck (a:T) (b:List T):mJ (a::b)=(mW a&&mJ b):=by rw[mJ]
@[simp] theorem HD (a:ak) (b:Int):mW (.int a b)=true:=by unfold mW;rfl
@[simp] theorem XZ (a:Bool):mW (.bool a)=true:=by unfold mW;rfl
@[simp] theorem HC (a:List Nat):mW (.str a)=true:=by unfold mW;rfl
@[simp] theorem XX:mW .gu=true:=by unfold mW;rfl
@[simp] theorem XY (a:List T) (b:Bool):mW (.dN a b)=mJ a:=by rw[mW]
@[simp] theorem HE (a:List T):mW (.agg a)=mJ a:=by rw[mW]
def MC{d:Type}(c:d->T)(e:∀b,mW (c b)=true):∀a:List d,mJ (a.map c)=true:=by
 intro a;induction a with
 |nil=>simp
 |cons b a f=>simp[e b,f]
def SL(b:T)(a:List T):Prop:=(b= .gu/\a=[])\/∃c,b= .dN a c
def sl(a:List T):T:=match a with| []=> .gu|x::b=> .dN (x::b) false
def Tq(a:List T)(b:Bool):SL (.dN a b) a:= .inr ⟨b,rfl⟩
def SL.ji{b:T}{a:List T}(d:SL b a)(c:H):c.ji b=some a:=by
 rcases d with⟨rfl,rfl⟩|⟨e,rfl⟩<;>rfl
def SL.cells{a:T}{b:List T}(c:SL a b):a.cells=[a]:=by
 rcases c with⟨rfl,rfl⟩|⟨d,rfl⟩<;>rfl
def SL.im{a:T}{b:List T}(c:SL a b):a.im=true:=by
 rcases c with⟨rfl,rfl⟩|⟨d,rfl⟩<;>rfl
end
noncomputable section
def Hp(a:H):Prop:=a.fy.length=a.size
def TA{a:H}(b:Hp a)(c:iY):Hp (a.cons c):=by unfold Hp at*;simp[H.cons,b]
@[simp] theorem size_cons (a:H) (b:iY):(a.cons b).size=a.size+1:=rfl
def d8(a:H)(b:Nat)(c:iY):H:=(a.put b c).getD a
def G7{b:H}(i:Hp b){a:Nat}(h:a<b.size)(e:iY):b.put a e=some (d8 b a e):=by
 have:∃d,b.put a e=some d:=by
  obtain⟨c,f,j⟩:=b;unfold Hp at i;simp only at i h;show∃d,(gh (Nat.blt a c) (dV (kJ j (Nat.sub (Nat.sub c 1) a) e) λg=> @Bool.rec (λ_=>aa H) (some ⟨c,f,g⟩) (some ⟨c,a,g⟩) (Nat.blt a f)))=some d;rw[show Nat.blt a c=true by rw[aH];exact h,ir,kL,aq (by show c-1-a<_;omega),dY];cases Nat.blt a f<;>exact⟨_,rfl⟩
 obtain⟨d,k⟩:=this;unfold d8;rw[k];rfl
def Jb{b:H}(i:Hp b){a:Nat}(g:a<b.size)(d:iY):Hp (d8 b a d)/\(d8 b a d).size=b.size/\∀e,(d8 b a d).get e=if e=a then some d else b.get e:=by
 have f:=G7 i g d;generalize d8 b a d=j at*
 obtain⟨c,l,m⟩:=b;unfold Hp at*
 simp only at i g;have f:(gh (Nat.blt a c) (dV (kJ m (Nat.sub (Nat.sub c 1) a) d) λn=> @Bool.rec (λ_=>aa H) (some ⟨c,l,n⟩) (some ⟨c,a,n⟩) (Nat.blt a l)))=some j:=f;rw[show Nat.blt a c=true by rw[aH];exact g,ir,kL,aq (by show c-1-a<_;omega),dY]at f;have q:j.size=c/\j.fy=m.set (c-1-a) d:=by
  cases hl:Nat.blt a l<;>rw[hl]at f<;>simp only[ar]at f<;>subst f<;>exact⟨rfl,rfl⟩
 obtain⟨k,p⟩:=q;refine⟨by rw[k,p];simp[i],k,λe=> ?_⟩;rw[H.get_eq,H.get_eq,k,p];by_cases o:e=a
 ·subst o;rw[aq g,aq rfl];simp[bV,i];omega
 ·rw[ao o];simp only;by_cases h:e<c
  ·rw[aq h,aq h,cI dB]
  ·rw[ao h,ao h]
def get_put{b:H}(f:Hp b){c:Nat}(e:c<b.size)(d:iY)(a:Nat):(d8 b c d).get a=if a=c then some d else b.get a:=(Jb f e d).2.2 a
@[simp] theorem acE (off:Nat) (c:H) (a b d e:Nat):faV off c (.ptr a b d e)=some (.val (.ptr a b d (e+off)) c):=by
 show(dV (hU (Nat.add e off)) λf=>some (lH.val (.ptr a b d f) c))=_;rw[iE];rfl
@[simp] theorem Ps (a:H) (b:Nat->T) (c:iY):jz (a.new b c)=some (.val (b a.size) (a.cons c)):=by rw[H.kF];rfl
def JF{a:H}(b:Hp a)(g d:T):uh 0 0 g d a=some (d,⟨0,0,[]⟩):=by
 obtain⟨c,f,e⟩:=a;unfold Hp at b;simp only at b;unfold uh;simp only;rw[show Nat.sub c 0=c from rfl,lU,aq dB,dY,show Nat.ble 0 f=true by simp];simp[show e.drop c=[]by simp[b]]
def HK{a:H}(e:Hp a){b c:T}(d:jl a 0 b=some c):Co false 0 0 b a=some (c,⟨0,0,[]⟩):=by
 show @Option.rec T (λ_=>aa (T×H)) (ni 0 b a) (λc=>uh 0 0 b c a) (jl a 0 b)=_;rw[d];exact JF e b c
inductive TB:T->Prop where
 |bool (b:Bool):TB (.bool b)
 |int (k:ak) (n:Int):TB (.int k n)
 |str (s:List Nat):TB (.str s)
 |dN (es:List T) (f:Bool):TB (.dN es f)
 |gu:TB .gu
def TB.freeze{a:T}(d:TB a)(c:H)(e b:Nat):freeze c e (b+1) a=some a:=by cases d<;>rfl
def sP{c:T->aa T}{a:List T}(d:∀b∈a,c b=some b):fP c a=some a:=by
 induction a with
 |nil=>rfl
 |cons b h f=>
  rw[jK,d b dC,f λg e=>d g (by simp[e])];rfl
def abR(b:T):Prop:=TB b\/∃a,b= .agg a/\∀c∈a,TB c
def abR.freeze{e:T}(d:abR e)(b:H)(c a:Nat):freeze b c (a+2) e=some e:=by
 rcases d with d|⟨f,rfl,g⟩
 ·exact d.freeze b c (a+1)
 ·show(dV (fP (Go.TI.freeze b c (a+1)) f) λi=>some (T.agg i))=_;rw[sP λj h=>(g j h).freeze b c a];rfl
def Aa(b:List (Nat×Nat))(c d:Nat):Bool:=b.any λa=>a.1==c&&a.2==d
def lA(a:List (Nat×Nat))(b:Nat):Bool:=a.any λc=>c.1==b
def ER{a:List (Nat×Nat)}{b d:Nat}(h:Aa a b d=true):lA a b=true:=by
 unfold Aa at h;unfold lA;rw[List.any_eq_true]at h|-;obtain⟨f,c,h⟩:=h;exact⟨f,c,by simp at h;simp[h.1]⟩
def SU(g:List (Nat×Nat))(c:af Oper):Bool:=
 let f:=Kj c.toList []
 let d:=c.toList.zipIdx
 d.all λa=>d.all λb=> !Nat.blt b.2 a.2|| !((sR b.1.op&&iB a.1.op)||(iB b.1.op&&(sR a.1.op||iB a.1.op)))||(f.getD a.2 0).testBit b.2||Aa g b.2 a.2
def CY{j:List (Nat×Nat)}{g:af Oper}(k:SU j g=true){b c:Nat}{f d:Oper}(p:g[b]? =some f)(r:g[c]? =some d)(q:b<c)
 (s:(sR f.op=true/\iB d.op=true)\/(iB f.op=true/\(sR d.op=true\/iB d.op=true))):jN g b c=true\/Aa j b c=true:=by
 unfold SU at k;have m:=List.all_eq_true.1 k (d,c) (mem_zipIdx r);have a:=List.all_eq_true.1 m (f,b) (mem_zipIdx p);have o:Nat.blt b c=true:=by rw[aH];exact q
 simp only[o,cN,Bool.false_or,cm,ci]at a;rcases a with(a|a)|a
 ·exfalso;rcases s with⟨l,i⟩|⟨l,i|i⟩<;>simp[l,i]at a
 ·exact .inl a
 ·exact .inr a
def mD(c:List (Nat×Nat))(f b:Nat)(d:List (Nat×H×H)):Prop:=∀a∈d,Aa c a.1 f=true->ff a.2.1 a.2.2 b=true
def v8(b:List (Nat×Nat))(d:Nat)(h c:H)(f:List (Nat×Nat)):Prop:=∀a∈f,Aa b a.1 d=true->ff h c a.2=true
@[simp] theorem VX (b:List (Nat×Nat)) (c a:Nat):mD b c a []=True:=by simp[mD]
@[simp] theorem Uw (b:List (Nat×Nat)) (c a g:Nat) (h f:H) (d:List (Nat×H×H)):mD b c a ((g,h,f)::d)=((Aa b g c=true->ff h f a=true)/\mD b c a d):=by simp[mD]
@[simp] theorem Yb (a:List (Nat×Nat)) (c:Nat) (h b:H):v8 a c h b []=True:=by simp[v8]
@[simp] theorem Wp (a:List (Nat×Nat)) (c f d:Nat) (h b:H) (g:List (Nat×Nat)):v8 a c h b ((f,d)::g)=((Aa a f c=true->ff h b d=true)/\v8 a c h b g):=by simp[v8]
open Classical in
def w7(cx:Ctx)(cf:iX)(mask:Nat)(g:af Oper)(b:List (Nat×Nat)):List Oper->Nat->List (Nat×Nat)->List (Nat×H×H)->Env->H->aa (Env×H)
 | [],_,_,_,e,h=>some (e,h)
 |o::k,a,f,c,e,h=>dV (ls cx cf mask g e h o) λm=>two m λj d=>
  dV (kv g mask e o.guard) λr=>
   if r=true then
    if iB o.op=true then
     if v8 b a h d f/\(∀p l q i,o.op= .store p l q->dV (fR cx mask e l) dU=some i->mD b a i c)then
      w7 cx cf mask g b k (a+1) f (if lA b a=true then(a,h,d)::c else c) j d else none
    else match gG cx mask e h o.op with
     |none=>w7 cx cf mask g b k (a+1) f c j d
     |some i=>if mD b a i c then w7 cx cf mask g b k (a+1) (if lA b a=true then(a,i)::f else f) c j d else none
   else w7 cx cf mask g b k (a+1) f c j d
section
variable {cx:Ctx}{cf:iX}{n mask:Nat}
def GU{s:List (Nat×Nat)}{f:af Oper}(K:SU s f=true):∀(l:List Oper) (b:Nat) (v:List (Nat×Nat)) (r:List (Nat×H×H)) (g:Seen) (e:Env) (h:H) (p:Env×H),(∀q,l[q]? =f[b+q]?)->
 (∀a∈g.mn,a.1<b/\(∃d,f[a.1]? =some d/\sR d.op=true)/\(lA s a.1=true->a∈v))->
 (∀a∈g.kT,a.1<b/\(∃d,f[a.1]? =some d/\iB d.op=true)/\(lA s a.1=true->a∈r))->
 w7 cx cf mask f s l b v r e h=some p->j3 cx cf mask f l b g e h=some p:=by
 intro l;induction l with
 |nil=>intro b v r g e h p _ _ _ c;exact c
 |cons d l D=>
  intro b v r g e h p hl G F c;have A:f[b]? =some d:=by have:=hl 0;simpa using this.symm
  have B:∀q,l[q]? =f[b+1+q]? :=λq=>by
   have:=hl (q+1);simp only[dq]at this;rw[this];congr 1;omega
  show(dV (ls cx cf mask f e h d) λa=>two a λm i=>
   dV (kv f mask e d.guard) λX=> @Bool.rec (λ_=>aa (Env×H)) (j3 cx cf mask f l (b+1) g m i)
    (@Bool.rec (λ_=>aa (Env×H))
      (@Option.rec Nat (λ_=>aa (Env×H)) (j3 cx cf mask f l (b+1) g m i)
        (λj=>gh (og f b j g.kT) (j3 cx cf mask f l (b+1) ⟨(b,j)::g.mn,g.kT⟩ m i)) (gG cx mask e h d.op))
      (gh (xj f b h i g.mn) (gh (qK cx mask f b e g.kT d.op) (j3 cx cf mask f l (b+1) ⟨g.mn,(b,h,i)::g.kT⟩ m i))) (iB d.op)) X)=some p
  unfold w7 at c;obtain⟨⟨m,i⟩,S,c⟩:=dL.1 c;simp only[kC]at c;obtain⟨W,T,c⟩:=dL.1 c;rw[S,dY,kC,T,dY];have C:∀a∈g.mn,a.1<b+1/\(∃d,f[a.1]? =some d/\sR d.op=true)/\(lA s a.1=true->a∈v):=λa hp=>⟨by have:=(G a hp).1;omega,(G a hp).2⟩;have z:∀a∈g.kT,a.1<b+1/\(∃d,f[a.1]? =some d/\iB d.op=true)/\(lA s a.1=true->a∈r):=λa hp=>⟨by have:=(F a hp).1;omega,(F a hp).2⟩;have lk:∀j,(sR d.op=true\/iB d.op=true)->mD s b j r->og f b j g.kT=true:=by
   intro j Q w;unfold og;rw[y9,cv];intro a hp;obtain⟨t,⟨U,u,o⟩,J⟩:=F a hp;show @Bool.rec (λ_=>Bool) (jN f a.1 b) true (ff a.2.1 a.2.2 j)=true;rcases CY K u A t (.inr ⟨o,Q⟩)with I|y
   ·rw[I];cases ff a.2.1 a.2.2 j<;>rfl
   ·rw[w a (J (ER y)) y]
  cases W with
  |false=>simp only[cq,bo]at c;exact D (b+1) v r g m i p B C z c
  |true=>
   simp only[bg]at c;cases x:iB d.op with
   |true=>
    rw[x]at c;simp only[bg]at c;split at c
    ·rename_i w;have N:xj f b h i g.mn=true:=by
      unfold xj;rw[y9,cv];intro a hp;obtain⟨t,⟨U,u,o⟩,J⟩:=G a hp;show @Bool.rec (λ_=>Bool) (jN f a.1 b) true (ff h i a.2)=true;rcases CY K u A t (.inl ⟨o,x⟩)with I|y
      ·rw[I];cases ff h i a.2<;>rfl
      ·rw[w.1 a (J (ER y)) y]
     have O:qK cx mask f b e g.kT d.op=true:=by
      unfold qK;split
      ·rename_i q M V R;cases P:dV (fR cx mask e M) dU with
       |none=>rfl
       |some j=>exact lk j (.inr x) (w.2 q M V j R P)
      ·rfl
     simp only[N,O,ir];refine D (b+1) _ _ _ m i p B C (λa hp=> ?_) c;rcases List.mem_cons.1 hp with rfl|hp
     ·refine⟨dC,⟨d,A,x⟩,λk=> ?_⟩;simp only at k;rw[aq k];exact dt ..
     ·obtain⟨t,u,o⟩:=z a hp;refine⟨t,u,λk=> ?_⟩;split
      ·exact cG _ (o k)
      ·exact o k
    ·simp at c
   |false=>
    rw[x]at c;simp only[cq,bo]at c;simp only;cases E:gG cx mask e h d.op with
    |none=>rw[E]at c;exact D (b+1) v r g m i p B C z c
    |some j=>
     rw[E]at c;simp only at c;split at c
     ·rename_i w;have L:=HF E;simp only[lk j (.inl L) w,ir];refine D (b+1) _ _ _ m i p B (λa hp=> ?_) z c;rcases List.mem_cons.1 hp with rfl|hp
      ·refine⟨dC,⟨d,A,L⟩,λk=> ?_⟩;simp only at k;rw[aq k];exact dt ..
      ·obtain⟨t,u,o⟩:=C a hp;refine⟨t,u,λk=> ?_⟩;split
       ·exact cG _ (o k)
       ·exact o k
     ·simp at c
abbrev DL:=List (Nat×List (Nat×Nat))
def NY(cx:Ctx)(cf:iX)(mask:Nat)(dl:DL)(id:Nat)(a:af Oper)(e:Env)(h:H):Out:=
 match dl.lookup id with
 |none=>dV (ky cx cf mask a a.toList ⟨e.vars,.nil⟩ h) λd=>two d λb c=>some (.normal,⟨b.vars,.nil⟩,c)
 |some f=>dV (w7 cx cf mask a f a.toList 0 [] [] ⟨e.vars,.nil⟩ h) λd=>two d λb c=>some (.normal,⟨b.vars,.nil⟩,c)
def jG(cx:Ctx)(cf:iX)(b mask:Nat)(dl:DL):Code->Env->H->Out
 | .skip=>λe h=>some (.normal,e,h)
 | .region id f _=>NY cx cf mask dl id f
 | .seq c a=>BR (jG cx cf b mask dl c) (jG cx cf b mask dl a)
 | .cond d c a=>If cx mask d (jG cx cf b mask dl c) (jG cx cf b mask dl a)
 | .block id a=>x6 id (jG cx cf b mask dl a)
 | .loop a=>oo (jG cx cf b mask dl a) b
 | .exit id=>λe h=>some (.exit id,e,h)
 | .ret=>λe h=>some (.ret,e,h)
 |_=>λ_ _=>none
def mL(dl:DL):Code->Bool
 | .region id d c=>(match dl.lookup id with|none=> !c||KD d|some f=>c&&SU f d)
 | .seq a b=>mL dl a&&mL dl b
 | .cond _ a b=>mL dl a&&mL dl b
 | .block _ a=>mL dl a
 | .loop a=>mL dl a
 |_=>true
def qk{dl:DL}:∀(p:Code),mL dl p=true->∀e h b,jG cx cf n mask dl p e h=some b->j8 cx cf n mask p e h=some b:=by
 intro p;induction p with
 |region id k A=>
  intro c e h b a;obtain⟨s,E⟩:=e;replace a:NY cx cf mask dl id k ⟨s,E⟩ h=some b:=a;unfold NY at a;simp only[mL]at c;cases hl:dl.lookup id with
  |none=>
   rw[hl]at a c;simp only at a c;cases A with
   |false=>exact a
   |true=>
    simp only[cN,Bool.false_or]at c;show(dV (j3 cx cf mask k k.toList 0 ⟨[],[]⟩ ⟨s,.nil⟩ h) λb=>two b λf g=>some (Ex.normal,(⟨f.vars,.nil⟩:Env),g))=some b;rw[E7 c k.toList 0 ⟨[],[]⟩ ⟨s,.nil⟩ h (λy=>by simp) (λm i=>by simp at i) (λm i=>by simp at i)];exact a
  |some G=>
   rw[hl]at a c;simp only[ay]at a c;obtain⟨rfl,c⟩:=c;obtain⟨m,i,a⟩:=dL.1 a;show(dV (j3 cx cf mask k k.toList 0 ⟨[],[]⟩ ⟨s,.nil⟩ h) λb=>two b λf g=>some (Ex.normal,(⟨f.vars,.nil⟩:Env),g))=some b;rw[GU c k.toList 0 [] [] ⟨[],[]⟩ ⟨s,.nil⟩ h m (λy=>by simp) (λm i=>by simp at i) (λm i=>by simp at i) i,dY];exact a
 |seq d o w x=>
  intro c e h b a;simp only[mL,ay]at c;have a:BR (jG cx cf n mask dl d) (jG cx cf n mask dl o) e h=some b:=a;show BR (j8 cx cf n mask d) (j8 cx cf n mask o) e h=some b;unfold BR at*
  obtain⟨⟨l,t,u⟩,q,a⟩:=dL.1 a;rw[w c.1 e h _ q,dY];simp only[kP]at*
  cases l with
  |normal=>exact x c.2 t u b a
  |exit r=>exact a
  |ret=>exact a
 |cond z d o w x=>
  intro c e h b a;simp only[mL,ay]at c;have a:If cx mask z (jG cx cf n mask dl d) (jG cx cf n mask dl o) e h=some b:=a;show If cx mask z (j8 cx cf n mask d) (j8 cx cf n mask o) e h=some b;unfold If at*
  obtain⟨F,B,a⟩:=dL.1 a;rw[B,dY];cases F<;>first|exact a|skip
  rename_i y;cases y with
  |true=>exact w c.1 e h b a
  |false=>exact x c.2 e h b a
 |block id d v=>
  intro c e h b a;simp only[mL]at c;have a:x6 id (jG cx cf n mask dl d) e h=some b:=a;show x6 id (j8 cx cf n mask d) e h=some b;unfold x6 at*
  obtain⟨m,q,a⟩:=dL.1 a;rw[v c e h _ q,dY];exact a
 |loop d v=>
  intro c e h b a;simp only[mL]at c;have D:∀j e h b,oo (jG cx cf n mask dl d) j e h=some b->oo (j8 cx cf n mask d) j e h=some b:=by
   intro j;induction j with
   |zero=>intro e h b a;simp[oo]at a
   |succ j C=>
    intro e h b a;have a:(dV (jG cx cf n mask dl d e h) λb=>three b λl f g=> @Ex.rec (λ_=>Out) (oo (jG cx cf n mask dl d) j f g) (λr=>some (.exit r,f,g)) (some (.ret,f,g)) l)=some b:=a;show(dV (j8 cx cf n mask d e h) λb=>three b λl f g=> @Ex.rec (λ_=>Out) (oo (j8 cx cf n mask d) j f g) (λr=>some (.exit r,f,g)) (some (.ret,f,g)) l)=some b;obtain⟨⟨l,t,u⟩,q,a⟩:=dL.1 a;rw[v c e h _ q,dY];simp only[kP]at*
    cases l with
    |normal=>exact C t u b a
    |exit r=>exact a
    |ret=>exact a
  exact D n e h b a
 |_=>intro _ e h b a;first|exact a|(simp[jG]at a)
def WR(cx:Ctx)(cf:iX)(mask:Nat)(f:af Oper)(d:List Oper)(i g:fX)(h:H)(c:fX->H->Prop):Prop:=
 ∃a b,ky cx cf mask f d ⟨i,g⟩ h=some (a,b)/\c a.vars b
def WX(c:aa (T×H))(b:T->H->Prop):Prop:=∃a h,c=some (a,h)/\b a h
@[simp] theorem zd (b:T) (h:H) (d:T->H->Prop):WX (some (b,h)) d=d b h:=by
 apply propext;constructor
 ·rintro⟨g,f,c,a⟩;simp only[ar,az]at c;obtain⟨rfl,rfl⟩:=c;exact a
 ·exact λa=>⟨b,h,rfl,a⟩
def WD(mask:Nat)(g:aa Tmp)(f:T)(d c:fX)(a:fX->fX->Prop):Prop:=match g with
 |none=>a d c
 |some b=>if km mask b=true then a (put d b f) c else a d (.cons b f c)
def Cp(a b:Nat):(km a b=true)=((a>>>b)&&&1=1):=by
 apply propext;show Nat.beq ((a>>>b)&&&1) 1=true↔_;exact⟨aD,λh=>by rw[h];rfl⟩
def Gz(a:Tmp)(d:T)(f c:fX)(b:fX->fX->Prop):WD mask (some a) d f c b=if(mask>>>a)&&&1=1 then b (put f a d) c else b f (.cons a d c):=by
 unfold WD;simp only[Cp]
def Q0(i:af Oper)(b d:fX)(h:H)(f:fX->H->Prop):WR cx cf mask i [] b d h f=f b h:=by
 apply propext;constructor
 ·rintro⟨e,g,a,c⟩;have a:some ((⟨b,d⟩:Env),h)=some (e,g):=a;simp only[ar,az]at a;obtain⟨rfl,rfl⟩:=a;exact c
 ·exact λc=>⟨⟨b,d⟩,h,rfl,c⟩
def Gy(l:af Oper)(k:Oper)(j:List Oper)(b a:fX)(h:H)(q:fX->H->Prop):
 WR cx cf mask l (k::j) b a h q=WX (yj cx cf mask l ⟨b,a⟩ h k) λc d=>WD mask k.dst c b a λb a=>WR cx cf mask l j b a d q:=by
 have u:∀c d,(∃f,Env.dst mask ⟨b,a⟩ k.dst c=some f/\WR cx cf mask l j f.vars f.tmps d q)↔WD mask k.dst c b a λb a=>WR cx cf mask l j b a d q:=by
  intro c d;cases x:k.dst with
  |none=>
   constructor
   ·rintro⟨f,g,p⟩;have g:some (⟨b,a⟩:Env)=some f:=g;simp only[ar]at g;subst g;exact p
   ·exact λp=>⟨_,rfl,p⟩
  |some m=>
   have hE:Env.dst mask ⟨b,a⟩ (some m) c=some (if km mask m=true then⟨put b m c,a⟩else⟨b,.cons m c a⟩):=by
    show @Bool.rec (λ_=>aa Env) (some ⟨b,.cons m c a⟩) (dV (lK b m c) λj=>some ⟨j,a⟩) (km mask m)=_;rw[pf];cases km mask m<;>rfl
   rw[hE];unfold WD;simp only[ar,exists_eq_left'];split<;>rfl
 apply propext;have v:ky cx cf mask l (k::j) ⟨b,a⟩ h=dV (ls cx cf mask l ⟨b,a⟩ h k) λw=>two w λo d=>ky cx cf mask l j o d:=rfl;unfold WR;rw[v,qM];constructor
 ·rintro⟨o,d,i,s⟩;obtain⟨⟨c,r⟩,t,i⟩:=dL.1 i;simp only[kC]at i;obtain⟨f,g,i⟩:=dL.1 i;exact⟨c,r,t,(u c r).1 ⟨f,g,o,d,i,s⟩⟩
 ·rintro⟨c,r,t,p⟩;obtain⟨f,g,o,d,i,s⟩:=(u c r).2 p;refine⟨o,d,?_,s⟩;rw[t,dY,kC,g,dY];exact i
def abI(f:af Oper)(g:aa Tmp)(i:Op)(m:ab)(l:String)(j:af Edge)(d:List Oper)(b a:fX)(h:H)(c:fX->H->Prop):
 WR cx cf mask f (⟨g,i,m,l,j,none⟩::d) b a h c=WX (fin cf h (jn i cx mask ⟨b,a⟩ h)) λo k=>WD mask g o b a λb a=>WR cx cf mask f d b a k c:=Gy f _ d b a h c
def WG(c:aa Bool)(a b:Prop):Prop:=match c with|some true=>a|some false=>b|none=>False
def LE(a b:Prop):WG (some true) a b=a:=rfl
def Iz(b a:Prop):WG (some false) b a=a:=rfl
def Q1(c:af Oper)(i:aa Tmp)(k:Op)(r:ab)(q:String)(o:af Edge)(f:Nat)(d:Bool)(j:List Oper)(b a:fX)(h:H)(g:fX->H->Prop):
 WR cx cf mask c (⟨i,k,r,q,o,some (f,d)⟩::j) b a h g=WG (kv c mask ⟨b,a⟩ (some (f,d)))
  (WX (fin cf h (jn k cx mask ⟨b,a⟩ h)) λm l=>WD mask i m b a λb a=>WR cx cf mask c j b a l g)
  (WD mask i .undef b a λb a=>WR cx cf mask c j b a h g):=by
 rw[Gy];show WX (dV (kv c mask ⟨b,a⟩ (some (f,d))) λt=> @Bool.rec (λ_=>aa (T×H)) (some (.undef,h)) (fin cf h (jn k cx mask ⟨b,a⟩ h)) t) _=_;cases kv c mask ⟨b,a⟩ (some (f,d))with
 |none=>apply propext;constructor<;>(first|(rintro⟨m,l,p,_⟩;simp[dV]at p)|exact False.elim)
 |some s=>cases s<;>simp[LE,Iz]
def Kw(a:aa T)(b:Bool):aa Bool:=dV a λa=>match a with| .bool c=>some (c==b)|_=>some false
@[simp] theorem BC (b a:Bool):Kw (some (.bool b)) a=some (b==a):=rfl
@[simp] theorem TG (a:Bool):Kw (some .undef) a=some false:=rfl
@[simp] theorem BD (d:List Oper) (e:Env) (c:Nat) (f:Bool):kv d.toArray mask e (some (c,f))=Kw (dV (dV (d[c]?) λb=>b.dst) λa=>e.get mask a) f:=by
 show(dV (dV (dV (md d.toArray.toList c) λb=>b.dst) λa=>e.get mask a) λg=>_)=_;rw[kA];unfold Kw;simp only;cases (dV (dV (d[c]?) λb=>b.dst) λa=>e.get mask a)with
 |none=>rfl
 |some g=>cases g<;>first|rfl|(rename_i i;cases i<;>cases f<;>rfl)
@[simp] theorem Bn (c b:fX) (a:Nat):Env.get mask ⟨c,b⟩ a=if(mask>>>a)&&&1=1 then dO c a else dO b a:=by
 show @Bool.rec (λ_=>aa T) (dO b a) (dO c a) (km mask a)=_;simp only[<-Cp];cases km mask a<;>rfl
def Kn(cx:Ctx)(cf:iX)(mask:Nat)(k:af Oper)(d:List (Nat×Nat))(i:List Oper)(g:Nat)(j:List (Nat×Nat))(f:List (Nat×H×H))(m l:fX)(h:H)(c:fX->H->Prop):Prop:=
 ∃a b,w7 cx cf mask k d i g j f ⟨m,l⟩ h=some (a,b)/\c a.vars b
def LD(m:af Oper)(g:List (Nat×Nat))(k:Nat)(l:List (Nat×Nat))(i:List (Nat×H×H))(b d:fX)(h:H)(f:fX->H->Prop):Kn cx cf mask m g [] k l i b d h f=f b h:=by
 apply propext;constructor
 ·rintro⟨e,j,a,c⟩;have a:some ((⟨b,d⟩:Env),h)=some (e,j):=a;simp only[ar,az]at a;obtain⟨rfl,rfl⟩:=a;exact c
 ·exact λc=>⟨⟨b,d⟩,h,rfl,c⟩
def DK(cx:Ctx)(mask:Nat)(d:List (Nat×Nat))(a:Nat)(f:List (Nat×Nat))(b:List (Nat×H×H))(i:Op)(e:Env)(h j:H)(g:List (Nat×Nat)->List (Nat×H×H)->Prop):Prop:=
 if iB i=true then(v8 d a h j f/\(∀l k m c,i= .store l k m->dV (fR cx mask e k) dU=some c->mD d a c b))/\g f (if lA d a=true then(a,h,j)::b else b)
 else match gG cx mask e h i with
  |none=>g f b
  |some c=>mD d a c b/\g (if lA d a=true then(a,c)::f else f) b
def Iy(u:af Oper)(y:List (Nat×Nat))(j:Oper)(x:List Oper)(z:Nat)(q:List (Nat×Nat))(p:List (Nat×H×H))(b a:fX)(h:H)(A:fX->H->Prop):
 Kn cx cf mask u y (j::x) z q p b a h A=WG (kv u mask ⟨b,a⟩ j.guard)
  (WX (fin cf h (jn j.op cx mask ⟨b,a⟩ h)) λk c=>DK cx mask y z q p j.op ⟨b,a⟩ h c λq p=>WD mask j.dst k b a λb a=>Kn cx cf mask u y x (z+1) q p b a c A)
  (WD mask j.dst .undef b a λb a=>Kn cx cf mask u y x (z+1) q p b a h A):=by
 have t:∀k c (q:List (Nat×Nat)) (p:List (Nat×H×H)),(∃i,Env.dst mask ⟨b,a⟩ j.dst k=some i/\Kn cx cf mask u y x (z+1) q p i.vars i.tmps c A)↔WD mask j.dst k b a λb a=>Kn cx cf mask u y x (z+1) q p b a c A:=by
  intro k c q p;cases J:j.dst with
  |none=>
   constructor
   ·rintro⟨i,f,r⟩;have f:some (⟨b,a⟩:Env)=some i:=f;simp only[ar]at f;subst f;exact r
   ·exact λr=>⟨_,rfl,r⟩
  |some v=>
   have hE:Env.dst mask ⟨b,a⟩ (some v) k=some (if km mask v=true then⟨put b v k,a⟩else⟨b,.cons v k a⟩):=by
    show @Bool.rec (λ_=>aa Env) (some ⟨b,.cons v k a⟩) (dV (lK b v k) λx=>some ⟨x,a⟩) (km mask v)=_;rw[pf];cases km mask v<;>rfl
   rw[hE];unfold WD;simp only[ar,exists_eq_left'];split<;>rfl
 apply propext;constructor
 ·rintro⟨l,c,m,o⟩;unfold w7 at m;rw[qM]at m;obtain⟨⟨k,D⟩,s,E⟩:=dL.1 m;simp only[kC]at E;obtain⟨i,f,F⟩:=dL.1 E;obtain⟨C,r,g⟩:=dL.1 F;clear m E F;unfold yj at s;rw[r,dY]at s;rw[r];cases C with
  |false=>
   replace s:some (T.undef,h)=some (k,D):=s;simp only[ar,az]at s;obtain⟨rfl,rfl⟩:=s;simp only[cq,bo]at g;exact(t _ _ q p).1 ⟨i,f,l,c,g,o⟩
  |true=>
   simp only[bg]at g;refine⟨k,D,s,?_⟩;unfold DK;split
   ·rename_i hE;rw[aq hE]at g;split at g
    ·rename_i w;exact⟨w,(t _ _ _ _).1 ⟨i,f,l,c,g,o⟩⟩
    ·simp at g
   ·rename_i hE;rw[ao hE]at g;cases B:gG cx mask ⟨b,a⟩ h j.op with
    |none=>rw[B]at g;exact(t _ _ _ _).1 ⟨i,f,l,c,g,o⟩
    |some I=>
     rw[B]at g;simp only at g;split at g
     ·rename_i w;exact⟨w,(t _ _ _ _).1 ⟨i,f,l,c,g,o⟩⟩
     ·simp at g
 ·intro d;unfold Kn w7;rw[qM];cases r:kv u mask ⟨b,a⟩ j.guard with
  |none=>rw[r]at d;exact d.elim
  |some C=>
   rw[r]at d;have G:yj cx cf mask u ⟨b,a⟩ h j= @Bool.rec (λ_=>aa (T×H)) (some (.undef,h)) (fin cf h (jn j.op cx mask ⟨b,a⟩ h)) C:=by
    unfold yj;rw[r,dY]
   cases C with
   |false=>
    obtain⟨i,f,l,c,m,o⟩:=(t _ _ q p).2 d;refine⟨l,c,?_,o⟩;rw[G];simp only[dY,kC,f];exact m
   |true=>
    obtain⟨k,D,s,d⟩:=d;rw[G];simp only[s,dY,kC,bg];unfold DK at d;split at d
    ·rename_i hE;obtain⟨w,d⟩:=d;obtain⟨i,f,l,c,m,o⟩:=(t _ _ _ _).2 d;refine⟨l,c,?_,o⟩;rw[f,dY,aq hE,aq w];exact m
    ·rename_i hE;cases B:gG cx mask ⟨b,a⟩ h j.op with
     |none=>
      rw[B]at d;obtain⟨i,f,l,c,m,o⟩:=(t _ _ _ _).2 d;refine⟨l,c,?_,o⟩;rw[f,dY,ao hE];exact m
     |some I=>
      rw[B]at d;obtain⟨w,d⟩:=d;obtain⟨i,f,l,c,m,o⟩:=(t _ _ _ _).2 d;refine⟨l,c,?_,o⟩;rw[f,dY,ao hE];simp only;rw[aq w];exact m
def Xk(l:af Oper)(f:List (Nat×Nat))(m:aa Tmp)(k:Op)(r:ab)(q:String)(p:af Edge)(j:List Oper)(g:Nat)(d:List (Nat×Nat))(c:List (Nat×H×H))(b a:fX)(h:H)(i:fX->H->Prop):
 Kn cx cf mask l f (⟨m,k,r,q,p,none⟩::j) g d c b a h i=
  WX (fin cf h (jn k cx mask ⟨b,a⟩ h)) λs o=>DK cx mask f g d c k ⟨b,a⟩ h o λd c=>WD mask m s b a λb a=>Kn cx cf mask l f j (g+1) d c b a o i:=Iy l f _ j g d c b a h i
def RK(cx:Ctx)(cf:iX)(mask:Nat)(d:af Oper)(c:List Oper)(a f:fX)(h:H)(b:iO):Prop:=WR cx cf mask d c a f h λa h=>b.n ⟨a,.nil⟩ h
def XK(k:aa (T×H))(cx:Ctx)(cf:iX)(mask:Nat)(i:af Oper)(d:aa Tmp)(g:List Oper)(b a:fX)(c:iO):Prop:=WX k λj f=>WD mask d j b a λb a=>RK cx cf mask i g b a f c
def GK(j:aa Bool)(cx:Ctx)(cf:iX)(mask:Nat)(g:af Oper)(d:aa Tmp)(i:Op)(f:List Oper)(b a:fX)(h:H)(c:iO):Prop:=
 WG j (XK (fin cf h (jn i cx mask ⟨b,a⟩ h)) cx cf mask g d f b a c) (WD mask d .undef b a λb a=>RK cx cf mask g f b a h c)
@[simp] theorem aeN (c:af Oper) (a d:fX) (h:H) (b:iO):RK cx cf mask c [] a d h b=b.n ⟨a,.nil⟩ h:=Q0 c a d h _
@[simp] theorem afm (g:af Oper) (c:aa Tmp) (f:Op) (l:ab) (k:String) (j:af Edge) (d:List Oper) (b a:fX) (h:H) (i:iO):
 RK cx cf mask g (⟨c,f,l,k,j,none⟩::d) b a h i=XK (fin cf h (jn f cx mask ⟨b,a⟩ h)) cx cf mask g c d b a i:=abI g c f l k j d b a h _
@[simp] theorem fh (a:af Oper) (f:aa Tmp) (j:Op) (o:ab) (m:String) (l:af Edge) (g:Nat) (d:Bool) (i:List Oper) (c b:fX) (h:H) (k:iO):
 RK cx cf mask a (⟨f,j,o,m,l,some (g,d)⟩::i) c b h k=GK (kv a mask ⟨c,b⟩ (some (g,d))) cx cf mask a f j i c b h k:=Q1 a f j o m l g d i c b h _
@[simp] theorem ac1 (g:T) (h:H) (c:af Oper) (b:List Oper) (f d:fX) (a:iO):XK (some (g,h)) cx cf mask c none b f d a=RK cx cf mask c b f d h a:=by
 unfold XK;rw[zd];rfl
@[simp] theorem acZ (g:T) (h:H) (d:af Oper) (a:Tmp) (c:List Oper) (i f:fX) (b:iO):XK (some (g,h)) cx cf mask d (some a) c i f b=
 if(mask>>>a)&&&1=1 then RK cx cf mask d c (put i a g) f h b else RK cx cf mask d c i (.cons a g f) h b:=by
 unfold XK;rw[zd,Gz]
@[simp] theorem ade (i:af Oper) (d:aa Tmp) (g:Op) (f:List Oper) (b a:fX) (h:H) (c:iO):GK (some true) cx cf mask i d g f b a h c=XK (fin cf h (jn g cx mask ⟨b,a⟩ h)) cx cf mask i d f b a c:=id rfl
@[simp] theorem abO (g:af Oper) (c:Tmp) (i:Op) (f:List Oper) (b a:fX) (h:H) (d:iO):GK (some false) cx cf mask g (some c) i f b a h d=if(mask>>>c)&&&1=1 then RK cx cf mask g f (put b c .undef) a h d else RK cx cf mask g f b (.cons c .undef a) h d:=by
 show WD mask (some c) .undef b a (λb a=>RK cx cf mask g f b a h d)=_;rw[Gz]
def NJ(cx:Ctx)(mask:Nat)(b:List (Nat×Nat))(d:Nat)(c:List (Nat×H×H))(f:Op)(e:Env):Prop:=match f with
 | .store _ g _=>(match dV (fR cx mask e g) dU with|some a=>mD b d a c|none=>True)
 |_=>True
def UK(b:List (Nat×Nat))(d:Nat)(c:List (Nat×H×H))(f:aa Nat):Prop:=match f with|some a=>mD b d a c|none=>True
@[simp] theorem Xe (b:List (Nat×Nat)) (d:Nat) (c:List (Nat×H×H)) (a:Nat):UK b d c (some a)=mD b d a c:=id rfl
@[simp] theorem BL (a:List (Nat×Nat)) (c:Nat) (b:List (Nat×H×H)) (f:ab) (d g:ah) (e:Env):NJ cx mask a c b (.store f d g) e=UK a c b (dV (fR cx mask e d) dU):=id rfl
@[simp] theorem XB (b:List (Nat×Nat)) (d:Nat) (c:List (Nat×H×H)) (a:Call) (e:Env):NJ cx mask b d c (.call a) e=True:=id rfl
def TD(cx:Ctx)(cf:iX)(mask:Nat)(j:af Oper)(c:List (Nat×Nat))(g:List Oper)(f:Nat)(i:List (Nat×Nat))(d:List (Nat×H×H))(a k:fX)(h:H)(b:iO):Prop:=Kn cx cf mask j c g f i d a k h λa h=>b.n ⟨a,.nil⟩ h
def Rb(q:aa (T×H))(cx:Ctx)(cf:iX)(mask:Nat)(o:af Oper)(f:List (Nat×Nat))(k:aa Tmp)(m:Op)(l:List Oper)(i:Nat)(d:List (Nat×Nat))(c:List (Nat×H×H))(b a:fX)(h:H)(j:iO):Prop:=
 WX q λp g=>DK cx mask f i d c m ⟨b,a⟩ h g λd c=>WD mask k p b a λb a=>TD cx cf mask o f l (i+1) d c b a g j
def Rm(m:T)(cx:Ctx)(cf:iX)(mask:Nat)(l:af Oper)(d:List (Nat×Nat))(f:aa Tmp)(j:List Oper)(i:Nat)(k:List (Nat×Nat))(g:List (Nat×H×H))(b a:fX)(h:H)(c:iO):Prop:=WD mask f m b a λb a=>TD cx cf mask l d j i k g b a h c
def DLK(p:aa Nat)(m:T)(cx:Ctx)(cf:iX)(mask:Nat)(k:af Oper)(b:List (Nat×Nat))(i:aa Tmp)(j:List Oper)(a:Nat)(d:List (Nat×Nat))(c:List (Nat×H×H))(o l:fX)(h:H)(f:iO):Prop:=match p with
 |none=>Rm m cx cf mask k b i j (a+1) d c o l h f
 |some g=>mD b a g c/\Rm m cx cf mask k b i j (a+1) (if lA b a=true then(a,g)::d else d) c o l h f
@[simp] theorem abV (l:T) (j:af Oper) (b:List (Nat×Nat)) (c:aa Tmp) (g:List Oper) (f:Nat) (i:List (Nat×Nat)) (d:List (Nat×H×H)) (m k:fX) (h:H) (a:iO):DLK none l cx cf mask j b c g f i d m k h a=Rm l cx cf mask j b c g (f+1) i d m k h a:=id rfl
@[simp] theorem Rc (c:Nat) (m:T) (k:af Oper) (b:List (Nat×Nat)) (i:aa Tmp) (j:List Oper) (a:Nat) (f:List (Nat×Nat)) (d:List (Nat×H×H)) (o l:fX) (h:H) (g:iO):DLK (some c) m cx cf mask k b i j a f d o l h g=(mD b a c d/\Rm m cx cf mask k b i j (a+1) (if lA b a=true then(a,c)::f else f) d o l h g):=id rfl
@[simp] theorem abU (l:T) (i:af Oper) (b:List (Nat×Nat)) (f:List Oper) (d:Nat) (g:List (Nat×Nat)) (c:List (Nat×H×H)) (k j:fX) (h:H) (a:iO):Rm l cx cf mask i b none f d g c k j h a=TD cx cf mask i b f d g c k j h a:=id rfl
@[simp] theorem abT (l:T) (j:af Oper) (c:List (Nat×Nat)) (a:Tmp) (g:List Oper) (f:Nat) (i:List (Nat×Nat)) (d:List (Nat×H×H)) (m k:fX) (h:H) (b:iO):Rm l cx cf mask j c (some a) g f i d m k h b=
 if(mask>>>a)&&&1=1 then TD cx cf mask j c g f i d (put m a l) k h b else TD cx cf mask j c g f i d m (.cons a l k) h b:=by unfold Rm;rw[Gz]
@[simp] theorem adl (i:af Oper) (c:List (Nat×Nat)) (f:Nat) (g:List (Nat×Nat)) (d:List (Nat×H×H)) (a j:fX) (h:H) (b:iO):TD cx cf mask i c [] f g d a j h b=b.n ⟨a,.nil⟩ h:=LD i c f g d a j h _
@[simp] theorem aeS (l:af Oper) (d:List (Nat×Nat)) (f:aa Tmp) (a:Op) (q:ab) (p:String) (o:af Edge) (j:List Oper) (i:Nat) (k:List (Nat×Nat)) (g:List (Nat×H×H)) (c b:fX) (h:H) (m:iO):
 TD cx cf mask l d (⟨f,a,q,p,o,none⟩::j) i k g c b h m=Rb (fin cf h (jn a cx mask ⟨c,b⟩ h)) cx cf mask l d f a j i k g c b h m:=Xk l d f a q p o j i k g c b h _
def DEK(q:Bool)(p:T)(d:H)(cx:Ctx)(cf:iX)(mask:Nat)(o:af Oper)(b:List (Nat×Nat))(k:aa Tmp)(m:Op)(l:List Oper)(a:Nat)(i:List (Nat×Nat))(c:List (Nat×H×H))(g f:fX)(h:H)(j:iO):Prop:=match q with
 |true=>(v8 b a h d i/\NJ cx mask b a c m ⟨g,f⟩)/\Rm p cx cf mask o b k l (a+1) i (if lA b a=true then(a,h,d)::c else c) g f d j
 |false=>DLK (gG cx mask ⟨g,f⟩ h m) p cx cf mask o b k l a i c g f d j
@[simp] theorem Re (p:T) (d:H) (o:af Oper) (b:List (Nat×Nat)) (k:aa Tmp) (m:Op) (l:List Oper) (a:Nat) (f:List (Nat×Nat)) (c:List (Nat×H×H)) (i g:fX) (h:H) (j:iO):DEK true p d cx cf mask o b k m l a f c i g h j=((v8 b a h d f/\NJ cx mask b a c m ⟨i,g⟩)/\Rm p cx cf mask o b k l (a+1) f (if lA b a=true then(a,h,d)::c else c) i g d j):=id rfl
@[simp] theorem Nj (p:T) (i:H) (o:af Oper) (d:List (Nat×Nat)) (f:aa Tmp) (m:Op) (k:List Oper) (j:Nat) (l:List (Nat×Nat)) (g:List (Nat×H×H)) (b a:fX) (h:H) (c:iO):DEK false p i cx cf mask o d f m k j l g b a h c=DLK (gG cx mask ⟨b,a⟩ h m) p cx cf mask o d f k j l g b a i c:=id rfl
@[simp] theorem abS (b:T) (r:H) (u:af Oper) (i:List (Nat×Nat)) (q:aa Tmp) (a:Op) (s:List Oper) (l:Nat) (t:List (Nat×Nat)) (j:List (Nat×H×H)) (d c:fX) (h:H) (p:iO):
 Rb (some (b,r)) cx cf mask u i q a s l t j d c h p=DEK (iB a) b r cx cf mask u i q a s l t j d c h p:=by
 unfold Rb;rw[zd];unfold DK;cases hE:iB a with
 |true=>
  rw[aq rfl,Re];have:(∀m f b g,a= .store m f b->dV (fR cx mask ⟨d,c⟩ f) dU=some g->mD i l g j)↔NJ cx mask i l j a ⟨d,c⟩:=by
   constructor
   ·intro k;cases a<;>first|exact trivial|skip
    rename_i m f b;rw[BL];cases o:dV (fR cx mask ⟨d,c⟩ f) dU with
    |none=>exact trivial
    |some g=>exact k m f b g rfl o
   ·intro k m f b g v o;subst v;rw[BL,o]at k;exact k
  rw[this];rfl
 |false=>
  rw[ao dC,Nj];cases gG cx mask ⟨d,c⟩ h a<;>rfl
section
variable (e:Env)(h:H)
@[simp] theorem Ux (a:ab) (c b:ah):iB (.store a c b)=true:=id rfl
@[simp] theorem Uy (b:ah) (a:af ah) (c:af ab):iB (.call ⟨.value b,a,c⟩)=true:=id rfl
@[simp] theorem Uz (a:Builtin) (b:af ah) (c:af ab):iB (.call ⟨.builtin a,b,c⟩)=(match a with| .len| .min| .max=>false|_=>true):=id rfl
@[simp] theorem V3 (a:ah):iB (.move a)=false:=id rfl
@[simp] theorem Sl (a:ah):iB (.assign a)=false:=id rfl
@[simp] theorem V4 (a:ab) (b:ah):iB (.load a b)=false:=id rfl
@[simp] theorem aaP (a:ah):iB (.nilCheck a)=false:=id rfl
@[simp] theorem aaT (b:ab) (c:ah) (a:Nat):iB (.fieldAddr b c a)=false:=id rfl
@[simp] theorem aaS (a:ab) (b c:ah):iB (.indexAddr a b c)=false:=id rfl
@[simp] theorem X3 (a:BinOp) (b c:ab) (d f:ah):iB (.binOp a b d f c)=false:=id rfl
@[simp] theorem UB (a:ab):iB (.alloc a)=false:=id rfl
@[simp] theorem UA (b:ab) (a:af (Nat×ah)):iB (.build b a)=false:=id rfl
@[simp] theorem aaW (b:ab) (n:Nat) (a:af (Nat×ah)):iB (.buildSlice b n a)=false:=id rfl
@[simp] theorem aaQ (a:ab) (b c:ah):iB (.makeSlice a b c)=false:=id rfl
@[simp] theorem aaO (d:ab) (f:ah) (a b c:aa ah):iB (.slice d f a b c)=false:=id rfl
@[simp] theorem aaU (b:ah) (a:Nat):iB (.extract b a)=false:=id rfl
@[simp] theorem aaV (a b:ab) (c:ah):iB (.convert a b c)=false:=id rfl
@[simp] theorem aaR (c:Fn) (a b:af ah):iB (.makeFunc c a b)=false:=id rfl
@[simp] theorem aci (b:ab) (a:ah):gG cx mask e h (.load b a)=dV (fR cx mask e a) dU:=id rfl
@[simp] theorem aff (b:ab) (a c:ah):gG cx mask e h (.indexAddr b a c)=dV (fR cx mask e a) dU:=id rfl
@[simp] theorem afb (f:ab) (a:ah) (b c d:aa ah):gG cx mask e h (.slice f a b c d)=dV (fR cx mask e a) dU:=id rfl
@[simp] theorem afi (b c:ab) (a:ah):gG cx mask e h (.convert b c a)=dV (fR cx mask e a) dU:=id rfl
@[simp] theorem aaL (a:ab):gG cx mask e h (.alloc a)=some h.size:=id rfl
@[simp] theorem afj (b:ab) (n:Nat) (a:af (Nat×ah)):gG cx mask e h (.buildSlice b n a)=some h.size:=id rfl
@[simp] theorem afd (a:ab) (b c:ah):gG cx mask e h (.makeSlice a b c)=some h.size:=id rfl
@[simp] theorem ach (a:ah):gG cx mask e h (.move a)=none:=id rfl
@[simp] theorem X2 (a:ah):gG cx mask e h (.assign a)=none:=id rfl
@[simp] theorem afc (a:ah):gG cx mask e h (.nilCheck a)=none:=id rfl
@[simp] theorem afg (b:ab) (c:ah) (a:Nat):gG cx mask e h (.fieldAddr b c a)=none:=id rfl
@[simp] theorem aec (a:BinOp) (b c:ab) (d f:ah):gG cx mask e h (.binOp a b d f c)=none:=id rfl
@[simp] theorem aaK (b:ab) (a:af (Nat×ah)):gG cx mask e h (.build b a)=none:=id rfl
@[simp] theorem afh (b:ah) (a:Nat):gG cx mask e h (.extract b a)=none:=id rfl
@[simp] theorem acj (a:Call):gG cx mask e h (.call a)=none:=id rfl
@[simp] theorem afe (c:Fn) (a b:af ah):gG cx mask e h (.makeFunc c a b)=none:=id rfl
@[simp] theorem Yl (a b c d:Nat):dU (.ptr a b c d)=some a:=id rfl
@[simp] theorem wN (a b f d:Nat) (c:Bool):dU (.arr a b f d c)=some a:=id rfl
@[simp] theorem Xb (a:List T) (b:Bool):dU (.dN a b)=none:=id rfl
@[simp] theorem Xc (a:List T):dU (.jB a)=none:=id rfl
@[simp] theorem Ym (a:ak) (n:Int):dU (.int a n)=none:=id rfl
end
variable {dl:DL}
def QK(cx:Ctx)(cf:iX)(mask:Nat)(a:List Oper)(f:aa (List (Nat×Nat)))(c:fX)(h:H)(b:iO):Prop:=match f with
 |none=>RK cx cf mask a.toArray a c .nil h b
 |some d=>TD cx cf mask a.toArray d a 0 [] [] c .nil h b
@[simp] theorem adb (a:List Oper) (c:fX) (h:H) (b:iO):QK cx cf mask a none c h b=RK cx cf mask a.toArray a c .nil h b:=id rfl
@[simp] theorem ac9 (a:List Oper) (c:List (Nat×Nat)) (d:fX) (h:H) (b:iO):QK cx cf mask a (some c) d h b=TD cx cf mask a.toArray c a 0 [] [] d .nil h b:=id rfl
def UP(f:aa (Env×H))(g:iO):W (dV f λj=>two j λb a=>some (.normal,(⟨b.vars,.nil⟩:Env),a)) g=∃b a,f=some (b,a)/\g.n ⟨b.vars,.nil⟩ a:=by
 cases f with
 |none=>apply propext;constructor<;>(first|(rintro⟨k,a,l,c,_⟩;simp[dV]at c)|(rintro⟨k,a,c,_⟩;simp at c))
 |some i=>
  obtain⟨b,a⟩:=i;simp only[dY,kC,De,ar,az];apply propext;constructor
  ·exact λd=>⟨b,a,⟨rfl,rfl⟩,d⟩
  ·rintro⟨_,_,⟨rfl,rfl⟩,d⟩;exact d
@[simp] theorem aeL (id:Nat) (b:List Oper) (f:Bool) (c d:fX) (h:H) (a:iO):W (jG cx cf n mask dl (.region id b.toArray f) ⟨c,d⟩ h) a=QK cx cf mask b (dl.lookup id) c h a:=by
 show W (NY cx cf mask dl id b.toArray ⟨c,d⟩ h) a=_;unfold NY;cases dl.lookup id with
 |none=>exact UP _ a
 |some g=>exact UP _ a
@[simp] theorem aeJ (b c:Code) (e:Env) (h:H) (a:iO):W (jG cx cf n mask dl (.seq b c) e h) a=W (jG cx cf n mask dl b e h) (Fx (jG cx cf n mask dl c) a):=abD _ _ e h a
@[simp] theorem abF (id:Nat) (b:Code) (e:Env) (h:H) (a:iO):W (jG cx cf n mask dl (.block id b) e h) a=W (jG cx cf n mask dl b e h) (rR id a):=To id _ e h a
def CK(d:aa T)(cx:Ctx)(cf:iX)(n mask:Nat)(dl:DL)(b c:Code)(e:Env)(h:H)(a:iO):Prop:=Qa d (W (jG cx cf n mask dl b e h) a) (W (jG cx cf n mask dl c e h) a)
@[simp] theorem fH (d:Bool) (b c:Code) (e:Env) (h:H) (a:iO):CK (some (.bool d)) cx cf n mask dl b c e h a=if d=true then W (jG cx cf n mask dl b e h) a else W (jG cx cf n mask dl c e h) a:=id rfl
@[simp] theorem ac6 (a:Nat) (f g:Code) (c b:fX) (h:H) (d:iO):W (jG cx cf n mask dl (.cond (.tmp a) f g) ⟨c,b⟩ h) d=CK (if(mask>>>a)&&&1=1 then dO c a else dO b a) cx cf n mask dl f g ⟨c,b⟩ h d:=by
 rw[<-Bn];apply propext;unfold CK;show W (dV (Env.get mask ⟨c,b⟩ a) λi=>_) d↔_;cases Env.get mask ⟨c,b⟩ a with
 |none=>simp[dV,Qa,QU]
 |some i=>
  simp only[dY];cases i<;>simp only[Qa,QU];rename_i j;cases j<;>simp
@[simp] theorem ac4 (b:Code) (e:Env) (h:H) (a:iO):W (jG cx cf n mask dl (.loop b) e h) a=W (oo (jG cx cf n mask dl b) n e h) a:=rfl
@[simp] theorem ac3 (e:Env) (h:H) (a:iO):W (jG cx cf n mask dl .skip e h) a=a.n e h:=De e h a
@[simp] theorem ac5 (id:Nat) (e:Env) (h:H) (a:iO):W (jG cx cf n mask dl (.exit id) e h) a=a.x id e h:=Df id e h a
@[simp] theorem aeK (e:Env) (h:H) (a:iO):W (jG cx cf n mask dl .ret e h) a=a.r e h:=UO e h a
end
end
noncomputable section
noncomputable section
variable {cx:Ctx}{cf:iX}{mask:Nat}{e:Env}{h:H}
attribute [simp] Pz lz jK H.kF
@[simp] theorem Z9 (c b:fX) (a:Nat):fR cx mask ⟨c,b⟩ (.tmp a)=if(mask>>>a)&&&1=1 then dO c a else dO b a:=Bn c b a
@[simp] theorem aaa (a:ak) (b:Int):fR cx mask e (.const (.int a b))=some (.int a b):=rfl
@[simp] theorem XO (a:Bool):fR cx mask e (.const (.bool a))=some (.bool a):=rfl
@[simp] theorem XN:fR cx mask e (.const (.slice none 0 0))=some (.dN [] false):=rfl
@[simp] theorem Ox (b:ByteArray):fR cx mask e (.const (.string b))=some (.str (b.data.toList.map UInt8.toNat)):=by
 show(dV (Aq b.data.toList) λa=>some (T.str a))=_;have:∀a:List UInt8,Aq a=some (a.map UInt8.toNat):=by
  intro a;induction a with
  |nil=>rfl
  |cons f a c=>
   show(dV (hU f.toNat) λg=>dV (Aq a) λd=>some (g::d))=_;rw[c];simp
 rw[this];rfl
@[simp] theorem Mc (a:aj):fR cx mask e (.func a)=some (.func a []):=rfl
@[simp] theorem Hc (a:List ah):pZ cx mask e a=fP (fR cx mask e) a:=rfl
def ka(a:Int):aa Nat:=if 0<=a then some a.toNat else none
@[simp] theorem Xz (b:ak) (a:Int):pR (.int b a)=ka a:=by
 unfold ka;cases a with
 |ofNat c=>rw[aq dC];rfl
 |negSucc c=>rw[ao dB];rfl
@[simp] theorem IR (a:Nat):ka (a:Int)=some a:=by unfold ka;rw[aq dB];rfl
@[simp] theorem U7 (a:Nat):ka (no_index (OfNat.ofNat a):Int)=some a:=IR a
def eQ{a:Int}(h:0<=a):ka a=some a.toNat:=by unfold ka;rw[aq h]
@[simp] theorem acb (a:ah):jn (.move a) cx mask e h=val h (fR cx mask e a):=rfl
@[simp] theorem XS (a:ah):jn (.assign a) cx mask e h=val h (fR cx mask e a):=rfl
def mU(a:aa T)(b c:aa lH):aa lH:=dV a λa=>match a with| .bool d=>if d=true then b else c|_=>none
@[simp] theorem ej (c:Bool) (a b:aa lH):mU (some (.bool c)) a b=if c=true then a else b:=rfl
@[simp] theorem R9 (a b c:ah):jn (.pick a b c) cx mask e h=mU (fR cx mask e a) (val h (fR cx mask e b)) (val h (fR cx mask e c)):=by
 show(dV (fR cx mask e a) λa=>_)=_;unfold mU;cases fR cx mask e a with
 |none=>rfl
 |some f=>cases f<;>first|rfl|(rename_i d;cases d<;>rfl)
@[simp] theorem V5 (a:Ty):wH cx a=(match a.u with
 | .array _ b=>Option.casesOn (cx.ty b) false λd=>(match d.u with| .int c=>Dk c .u8|_=>false)
 |_=>false):=rfl
@[simp] theorem aay (b:ab):jn (.alloc b) cx mask e h=dV (cx.ty b) λa=>if wH cx a=true then some (.val (.ptr h.size 0 0 0) (h.cons (ly 1 true a.zero)))else some (.val (.ptr h.size 0 0 0) (h.cons (ly a.size true [a.kl]))):=by
 show(dV (cx.ty b) λa=>_)=_;cases cx.ty b with
 |none=>rfl
 |some a=>
  simp only[dY];cases wH cx a<;>simp
@[simp] theorem EC (b:Nat) (c:Bool) (a:List T):ly b c a=⟨b,0,0,c,false,a⟩:=rfl
@[simp] theorem ad4 (d:ab) (b:ah):jn (.box d b) cx mask e h=dV (fR cx mask e b) λa=>gh a.im (some (.val (.ptr h.size 0 0 0) (h.cons ⟨a.cells.length,0,0,true,false,[a]⟩))):=by
 show(dV (fR cx mask e b) λa=>gh a.im (jz (h.new (λc=> .ptr c 0 0 0) (ly (kR a.cells) true [a]))))=_;simp
def xJ(cx:Ctx)(mask:Nat)(e:Env):List (Nat×ah)->aa (List (Nat×T))
 | []=>some []
 |(b,d)::c=>dV (fR cx mask e d) λa=>gh a.im (dV (xJ cx mask e c) λf=>some ((b,a)::f))
@[simp] theorem Vx:xJ cx mask e []=some []:=rfl
@[simp] theorem Hb (a:Nat) (c:ah) (b:List (Nat×ah)):xJ cx mask e ((a,c)::b)=dV (fR cx mask e c) λd=>gh d.im (dV (xJ cx mask e b) λf=>some ((a,d)::f)):=rfl
def B5(a:List (Nat×ah)):partsOf cx mask e a=xJ cx mask e a:=by
 induction a with
 |nil=>rfl
 |cons i a g=>
  obtain⟨f,c⟩:=i;show(dV (dV (fR cx mask e c) λb=>gh b.im (some (f,b))) λk=>dV (partsOf cx mask e a) λj=>some (k::j))=_;rw[g,Hb];cases fR cx mask e c with
  |none=>rfl
  |some b=>cases d:b.im<;>simp[d]
def CM(cx:Ctx)(c:List (Nat×ab)):List (Nat×T)->List T->aa (List T)
 | [],a=>some a
 |(g,d)::i,a=>dV (c[g]?) λb=>dV (cx.ty b.2) λj=>gh (decide (d.cells.length=j.size)) (dV (kQ a b.1 d.cells) λf=>CM cx c i f)
@[simp] theorem X8 (b:List (Nat×ab)) (a:List T):CM cx b [] a=some a:=rfl
@[simp] theorem JS (a:List (Nat×ab)) (f:Nat) (b:T) (g:List (Nat×T)) (c:List T):CM cx a ((f,b)::g) c=dV (a[f]?) λd=>dV (cx.ty d.2) λj=>gh (decide (b.cells.length=j.size)) (dV (kQ c d.1 b.cells) λi=>CM cx a g i):=rfl
def F5(g:List (Nat×ab)):∀(c:List (Nat×T)) (f:List T),my (λb=>dV (md g b) λa=>dV (cx.ty a.2) λd=>some (a.1,d.size)) c f=CM cx g c f:=by
 intro c;induction c with
 |nil=>intro f;rfl
 |cons m c l=>
  intro f;obtain⟨b,j⟩:=m;show(dV (dV (md g b) λa=>dV (cx.ty a.2) λd=>some (a.1,d.size)) λi=>gh (Nat.beq (kR j.cells) i.2) (dV (kQ f i.1 j.cells) λk=>my (λb=>dV (md g b) λa=>dV (cx.ty a.2) λd=>some (a.1,d.size)) c k))=_;rw[JS,kA];cases g[b]? with
  |none=>rfl
  |some a=>
   simp only[dY];cases cx.ty a.2 with
   |none=>rfl
   |some d=>simp only[dY,jH,uV,l]
def CP(b:Nat):List (Nat×T)->List T->aa (List T)
 | [],a=>some a
 |(f,c)::g,a=>gh (decide (c.cells.length=b)) (dV (kQ a (f*b) c.cells) λd=>CP b g d)
@[simp] theorem X9 (b:Nat) (a:List T):CP b [] a=some a:=rfl
@[simp] theorem JT (a d:Nat) (b:T) (f:List (Nat×T)) (c:List T):CP a ((d,b)::f) c=gh (decide (b.cells.length=a)) (dV (kQ c (d*a) b.cells) λg=>CP a f g):=rfl
def D3(a:Nat):∀(b:List (Nat×T)) (c:List T),my (λd=>some (Nat.mul d a,a)) b c=CP a b c:=by
 intro b;induction b with
 |nil=>intro c;rfl
 |cons j b i=>
  intro c;obtain⟨d,f⟩:=j;show(gh (Nat.beq (kR f.cells) a) (dV (kQ c (Nat.mul d a) f.cells) λg=>my (λd=>some (Nat.mul d a,a)) b g))=_;simp only[jH,uV,i,JT];rfl
@[simp] theorem XD (c b:T) (a:List T):kQ (c::a) 0 [b]=some (b::a):=by rw[tN];simp
@[simp] theorem XC (f c d:T) (a b:List T):kQ (f::a) 0 (c::d::b)=dV (kQ a 0 (d::b)) λg=>some (c::g):=by
 rw[tN,tN];simp only[bh,Nat.zero_add,List.take_zero,cz];by_cases hl:b.length+1<=a.length
 ·rw[aq dB,aq dB];simp
 ·rw[ao dB,ao dB];rfl
@[simp] theorem ZM (a:T) (b d:List T) (c:Nat):kQ (a::b) (c+1) d=dV (kQ b c d) λf=>some (a::f):=rfl
def Kf(cx:Ctx)(h:H)(b:Ty)(c:List (Nat×T)):aa lH:=match b.u with
 | .struct f=>dV (CM cx f c b.zero) λa=>some (.val (.agg a) h)
 | .array _ d=>dV (cx.ty d) λg=>dV (CP g.size c b.zero) λa=>some (.val (.agg a) h)
 |_=>none
@[simp] theorem Yk (a:Ty) (c:List (Nat×T)):Kf cx h a c=(match a.u with
 | .struct f=>dV (CM cx f c a.zero) λb=>some (.val (.agg b) h)
 | .array _ d=>dV (cx.ty d) λg=>dV (CP g.size c a.zero) λb=>some (.val (.agg b) h)
 |_=>none):=rfl
@[simp] theorem aax (c:ab) (a:List (Nat×ah)):jn (.build c a.toArray) cx mask e h=dV (cx.ty c) λb=>dV (xJ cx mask e a) λa=>Kf cx h b a:=by
 show(dV (cx.ty c) λb=>dV (partsOf cx mask e a) λa=>_)=_;rw[B5];congr 1;funext b;congr 1;funext a;unfold Kf;cases b.u<;>first|rfl|(simp only[F5,D3,yh])
def An(c:Nat):List (Nat×T)->List T->aa (List T)
 | [],a=>some a
 |(b,d)::f,a=>gh (decide (d.cells.length=c)) (gh (decide (b<a.length)) (An c f (a.set b d)))
@[simp] theorem Wo (b:Nat) (a:List T):An b [] a=some a:=rfl
@[simp] theorem Ib (c b:Nat) (d:T) (f:List (Nat×T)) (a:List T):An c ((b,d)::f) a=gh (decide (d.cells.length=c)) (gh (decide (b<a.length)) (An c f (a.set b d))):=rfl
def F4(c:Nat):∀(b:List (Nat×T)) (a:List T),pH c b a=An c b a:=by
 intro b;induction b with
 |nil=>intro a;rfl
 |cons k b j=>
  intro a;obtain⟨d,f⟩:=k;show(gh (Nat.beq (kR f.cells) c) (dV (kJ a d f) λg=>pH c b g))=_;simp only[jH,uV,j,Ib,kL];by_cases i:d<a.length<;>simp[i]
@[simp] theorem Ri (f:ab) (b:Nat) (c:List (Nat×ah)):jn (.buildSlice f b c.toArray) cx mask e h=dV (cx.ty f) λd=>(match d.u with
 | .slice g=>dV (cx.ty g) λa=>dV (xJ cx mask e c) λc=>gh (decide (1<=a.size))<|gh (decide (b*a.size<=65536)) (dV (An a.size c (List.replicate b a.kl)) λi=>
  some (.val (.arr h.size 0 0 b false) (h.cons ⟨a.size,0,0,true,false,i⟩)))
 |_=>none):=by
 show(dV (cx.ty f) λd=>_)=_;congr 1;funext d;cases d.u<;>first|rfl|skip
 rename_i g;simp only[B5,F4,nQ,H.kF,Lx,EC,Au];rfl
@[simp] theorem acd (b:ab) (a:ah):jn (.load b a) cx mask e h=dV (cx.ty b) λc=>dV (fR cx mask e a) λa=>val h (h.load c a):=rfl
def ldB(a:iY)(c d f:Nat)(g:Ty):aa T:=gh (decide (a.ep=c)) (if a.it=true then none else dV (a.eZ[d]?) λe=>dV (jX f e.cells) λb=>ko g b)
@[simp] theorem VZ (l b m:Nat) (k f:Bool) (c:List T) (a d g:Nat) (i:Ty):ldB ⟨l,b,m,k,f,c⟩ a d g i=gh (decide (b=a)) (if f=true then none else dV (c[d]?) λe=>dV (jX g e.cells) λj=>ko i j):=id rfl
@[simp] theorem VY (j:Ty) (b c f i:Nat):h.load j (.ptr b c f i)=dV (h.get b) λa=>ldB a c f i j:=by
 show(dV (dV (h.get b) λa=>iY.casesOn a λ_ d _ _ g l=>gh (Nat.beq d c) (Bool.casesOn g (md l f) none)) λe=>dV (jX i e.cells) λk=>ko j k)=_;cases h.get b with
 |none=>rfl
 |some a=>
  obtain⟨o,d,p,n,g,m⟩:=a;simp only[dY,VZ,uV,kA];cases decide (d=c)<;>cases g<;>simp
def GN(h:H)(c:Nat)(a:iY)(f b g:Nat)(i:List T):aa H:=gh (decide (a.ep=f)) (if a.it=true then none else dV (a.eZ[b]?) λe=>dV (ml e g i) λd=>some (d8 h c ⟨a.sz,a.ep,a.ver+1,a.exact,false,a.eZ.set b d⟩))
@[simp] theorem Vb (d k a l:Nat) (g i:Bool) (b:List T) (f c j:Nat) (m:List T):GN h d ⟨k,a,l,g,i,b⟩ f c j m=gh (decide (a=f)) (if i=true then none else dV (b[c]?) λe=>dV (ml e j m) λn=>some (d8 h d ⟨k,a,l+1,g,false,b.set c n⟩)):=id rfl
def yr{a:Nat}{o:iY}(c:h.get a=some o)(f:iY):h.put a f=some (d8 h a f):=by
 have:∃d,h.put a f=some d:=by
  obtain⟨b,j,g⟩:=h;rw[H.get_eq]at c;simp only at c;by_cases i:a<b
  ·rw[aq i]at c;have hl:b-1-a<g.length:=by
    rcases aF (b-1-a) g.length with n|l
    ·exact n
    ·rw[aM l]at c;simp at c
   show∃d,(gh (Nat.blt a b) (dV (kJ g (Nat.sub (Nat.sub b 1) a) f) λk=> @Bool.rec (λ_=>aa H) (some ⟨b,j,k⟩) (some ⟨b,a,k⟩) (Nat.blt a j)))=some d;rw[show Nat.blt a b=true by rw[aH];exact i,ir,kL,aq (by show b-1-a<_;omega),dY];cases Nat.blt a j<;>exact⟨_,rfl⟩
  ·rw[ao i]at c;simp at c
 obtain⟨d,m⟩:=this;unfold d8;rw[m];rfl
@[simp] theorem ab2 (l:Ty) (b i a g:Nat) (c:T):h.store l (.ptr b i a g) c=gh (decide (c.cells.length=l.size)) (dV (h.get b) λf=>GN h b f i a g c.cells):=by
 show(gh (Nat.beq (kR c.cells) l.size) (dV (h.get b) λf=>iY.casesOn f λp j q exact k n=>
  gh (Nat.beq j i) (@Bool.rec (λ_=>aa H) (dV (md n a) λe=>dV (ml e g c.cells) λm=>dV (kJ n a m) λd=>
   dV (hU (Nat.succ q)) λv=>h.put b ⟨p,j,v,exact,false,d⟩) none k)))=_
 simp only[jH,uV];cases r:h.get b with
 |none=>rfl
 |some f=>
  obtain⟨p,j,q,w,k,d⟩:=f;simp only[dY,Vb];congr 1;congr 1;cases k with
  |true=>rfl
  |false=>
   simp only[kA,cq,bo];cases o:d[a]? with
   |none=>rfl
   |some e=>
    simp only[dY];cases ml e g c.cells with
    |none=>rfl
    |some m=>
     have t:a<d.length:=by
      rcases aF a d.length with u|s
      ·exact u
      ·rw[aM s]at o;simp at o
     simp only[dY,kL,aq t,iE,yr r]
@[simp] theorem aar (b:ab) (a d:ah):jn (.store b a d) cx mask e h=dV (cx.ty b) λg=>dV (fR cx mask e a) λa=>dV (fR cx mask e d) λc=>gh c.im (dV (h.store g a c) λf=>some (.val .undef f)):=rfl
def ncW(h:H)(a:T):aa lH:=match a with| .ptr .. | .jB _| .func .. =>some (.val a h)|_=>none
@[simp] theorem ace (a b c d:Nat):ncW h (.ptr a b c d)=some (.val (.ptr a b c d) h):=rfl
@[simp] theorem Uu (a:ah):jn (.nilCheck a) cx mask e h=dV (fR cx mask e a) λb=>ncW h b:=rfl
@[simp] theorem XW (d f:ah) (b:ak) (c:Int) (a:T):AJ d f (.int b c) a=true:=id rfl
@[simp] theorem XV (c d:ah) (b:List Nat) (a:T):AJ c d (.str b) a=true:=id rfl
@[simp] theorem VQ (c d:ah) (b:Bool) (a:T):AJ c d (.bool b) a=true:=id rfl
@[simp] theorem ad3 (g j:ab) (c d:ah):jn (.binOp .eql g c d j) cx mask e h=dV (cx.ty g) λi=>dV (fR cx mask e c) λa=>dV (fR cx mask e d) λb=>gh (AJ c d a b) (dV (Np cx i a b) λf=>some (.val (.bool f) h)):=by
 show(dV (cx.ty g) λi=>dV (fR cx mask e c) λa=>dV (fR cx mask e d) λb=>gh (AJ c d a b) (dV (Np cx i a b) λf=>val h (w9 f)))=_;simp
@[simp] theorem adU (g j:ab) (c d:ah):jn (.binOp .neq g c d j) cx mask e h=dV (cx.ty g) λi=>dV (fR cx mask e c) λa=>dV (fR cx mask e d) λb=>gh (AJ c d a b) (dV (Np cx i a b) λf=>some (.val (.bool !f) h)):=by
 show(dV (cx.ty g) λi=>dV (fR cx mask e c) λa=>dV (fR cx mask e d) λb=>gh (AJ c d a b) (dV (Np cx i a b) λf=>val h (w9 (!f))))=_;simp
@[simp] theorem acG (d:Ty) (a:ak) (b c:Int) (f:d.u= .int a):Np cx d (.int a b) (.int a c)=some (decide (b=c)):=by unfold Np;rw[f];simp
@[simp] theorem acF (c:Ty) (a b:List Nat) (d:c.u= .str):Np cx c (.str a) (.str b)=some (decide (a=b)):=by unfold Np;rw[d];simp
@[simp] theorem abk (c:Ty) (a b:Bool) (d:c.u= .bool):Np cx c (.bool a) (.bool b)=some (a==b):=by unfold Np;rw[d];simp
def xg(c:BinOp)(d f:aa T)(h:H):aa lH:=dV d λa=>dV f λb=>val h (binop c a b)
@[simp] theorem aa1 (c:BinOp) (a b:T):xg c (some a) (some b) h=val h (binop c a b):=rfl
@[simp] theorem ad5 (c d:ab) (a b:ah):jn (.binOp .add c a b d) cx mask e h=xg .add (fR cx mask e a) (fR cx mask e b) h:=rfl
@[simp] theorem adR (c d:ab) (a b:ah):jn (.binOp .sub c a b d) cx mask e h=xg .sub (fR cx mask e a) (fR cx mask e b) h:=rfl
@[simp] theorem adV (c d:ab) (a b:ah):jn (.binOp .mul c a b d) cx mask e h=xg .mul (fR cx mask e a) (fR cx mask e b) h:=rfl
@[simp] theorem adT (c d:ab) (a b:ah):jn (.binOp .quo c a b d) cx mask e h=xg .quo (fR cx mask e a) (fR cx mask e b) h:=rfl
@[simp] theorem adS (c d:ab) (a b:ah):jn (.binOp .rem c a b d) cx mask e h=xg .rem (fR cx mask e a) (fR cx mask e b) h:=rfl
@[simp] theorem adY (c d:ab) (a b:ah):jn (.binOp .lss c a b d) cx mask e h=xg .lss (fR cx mask e a) (fR cx mask e b) h:=rfl
@[simp] theorem adZ (c d:ab) (a b:ah):jn (.binOp .leq c a b d) cx mask e h=xg .leq (fR cx mask e a) (fR cx mask e b) h:=rfl
@[simp] theorem ad1 (c d:ab) (a b:ah):jn (.binOp .gtr c a b d) cx mask e h=xg .gtr (fR cx mask e a) (fR cx mask e b) h:=rfl
@[simp] theorem ad2 (c d:ab) (a b:ah):jn (.binOp .geq c a b d) cx mask e h=xg .geq (fR cx mask e a) (fR cx mask e b) h:=rfl
@[simp] theorem ae7 (a:UnOp) (d:ab) (b:ah):jn (.unOp a d b) cx mask e h=dV (fR cx mask e b) λc=>val h (unop a c):=rfl
@[simp] theorem Sd (c:ab) (a:ah) (b:Nat):jn (.fieldAddr c a b) cx mask e h=dV (wJ cx c b) λd=>dV (fR cx mask e a) λa=>faV d.1 h a:=rfl
@[simp] theorem Wj (c:ab) (a:Nat):wJ cx c a=dV (cx.ty c) λd=>(match d.u with| .struct b=>b[a]? |_=>none):=by
 show(dV (cx.ty c) λd=>match d.u with| .struct b=>md b a|_=>none)=_;simp
def fdW(h:H)(off:Nat)(c:Ty)(d:T):aa lH:=match d with| .agg a=>dV (jX off a) λb=>val h (ko c b)|_=>none
@[simp] theorem acz (off:Nat) (b:Ty) (a:List T):fdW h off b (.agg a)=dV (jX off a) λc=>val h (ko b c):=rfl
@[simp] theorem aau (d:ab) (a:ah) (b:Nat):jn (.field d a b) cx mask e h=dV (wJ cx d b) λc=>dV (cx.ty c.2) λf=>dV (fR cx mask e a) λa=>fdW h c.1 f a:=rfl
def ixW(cx:Ctx)(h:H)(g:Ty)(d:T)(c:Nat):aa lH:=match g.u with
 | .slice a=>dV (cx.ty a) λb=>kH h b d c
 | .array f a=>dV (cx.ty a) λb=>oO h f b d c
 |_=>none
@[simp] theorem aek (f:Ty) (d:T) (b:Nat):ixW cx h f d b=(match f.u with
 | .slice a=>dV (cx.ty a) λc=>kH h c d b
 | .array g a=>dV (cx.ty a) λc=>oO h g c d b
 |_=>none):=rfl
@[simp] theorem Sb (c:ab) (b a:ah):jn (.indexAddr c b a) cx mask e h=dV (cx.ty c) λf=>dV (fR cx mask e b) λb=>dV (fR cx mask e a) λa=>dV (pR a) λd=>ixW cx h f b d:=rfl
@[simp] theorem MM (d:Ty) (b:List T) (f:Bool) (c:Nat):kH h d (.dN b f) c=dV (b[c]?) λa=>gh (decide (a.cells.length=d.size)) (some (.val (.jB a.cells) h)):=by
 show(dV (md b c) λa=>gh (Nat.beq (kR a.cells) d.size) (some (lH.val (.jB a.cells) h)))=_;simp
@[simp] theorem PI (i:Ty) (a c g f:Nat) (j:Bool) (d:Nat):kH h i (.arr a c g f j) d=gh (decide (d<f)) (dV (h.get a) λb=>gh (decide (b.sz=i.size))<|gh (decide (b.ep=c)) (some (.val (.ptr a c (g+d) 0) h))):=by
 show(gh (Nat.blt d f) (dV (h.get a) λb=>gh (Nat.beq b.sz i.size)<|gh (Nat.beq b.ep c) (dV (hU (Nat.add g d)) λk=>some (lH.val (.ptr a c k 0) h))))=_;simp
def icW(cx:Ctx)(h:H)(l:Ty)(c:T)(a:Nat):aa lH:=match l.u with
 | .str=>(match c with| .str k=>dV (k[a]?) λd=>some (.val (.int .u8 d) h)|_=>none)
 | .array i g=>(match c with
  | .agg f=>dV (cx.ty g) λb=>gh (decide (a<i)) (dV (jX (a*b.size) f) λj=>val h (ko b j))
  |_=>none)
 |_=>none
@[simp] theorem ael (d:Ty) (b:T) (a:Nat):icW cx h d b a=(match d.u with
 | .str=>(match b with| .str l=>dV (l[a]?) λf=>some (.val (.int .u8 f) h)|_=>none)
 | .array j i=>(match b with
  | .agg g=>dV (cx.ty i) λc=>gh (decide (a<j)) (dV (jX (a*c.size) g) λk=>val h (ko c k))
  |_=>none)
 |_=>none):=rfl
@[simp] theorem aat (d:ab) (a b:ah):jn (.index d a b) cx mask e h=dV (cx.ty d) λf=>dV (fR cx mask e a) λa=>dV (fR cx mask e b) λb=>dV (pR b) λc=>icW cx h f a c:=by
 show(dV (cx.ty d) λf=>dV (fR cx mask e a) λa=>dV (fR cx mask e b) λb=>dV (pR b) λc=>match f.u with
  | .str=>(match a with| .str n=>dV (md n c) λi=>val h (some (.int .u8 (.ofNat i)))|_=>none)
  | .array l k=>(match a with
   | .agg j=>dV (cx.ty k) λg=>gh (Nat.blt c l) (dV (jX (Nat.mul c g.size) j) λm=>val h (ko g m))
   |_=>none)
  |_=>none)=_
 simp only[kA,Td,yh];rfl
@[simp] theorem VN (b:ah) (a:Nat):jn (.extract b a) cx mask e h=dV (fR cx mask e b) λc=>exV h c a:=rfl
@[simp] theorem aaw (b:aj) (a:List ah) (f:af ab):jn (.call ⟨.value (.func b),a.toArray,f⟩) cx mask e h=dV (fP (fR cx mask e) a) λc=>some (.call b c):=by
 show(dV (pZ cx mask e a) λa=>dV (some (T.func b [])) λg=>match g with
  | .func b d=>dV (Eb a d) λc=>some (lH.call b c)
  |_=>none)=_
 simp
def abq(c:List T)(d:T):aa lH:=match d with| .func b a=>some (.call b (c++a))|_=>none
@[simp] theorem Ye (c:List T) (b:aj) (a:List T):abq c (.func b a)=some (.call b (c++a)):=rfl
@[simp] theorem aav (c:Tmp) (a:List ah) (i:af ab):jn (.call ⟨.value (.tmp c),a.toArray,i⟩) cx mask e h=dV (fP (fR cx mask e) a) λb=>dV (fR cx mask e (.tmp c)) λd=>abq b d:=by
 show(dV (pZ cx mask e a) λa=>dV (fR cx mask e (.tmp c)) λd=>match d with
  | .func g f=>dV (Eb a f) λb=>some (lH.call g b)
  |_=>none)=_
 simp only[Hc,pO,dY];rfl
@[simp] theorem ad0 (a:List ah) (b:ab):jn (.call ⟨.builtin .len,a.toArray,#[b]⟩) cx mask e h=dV (fP (fR cx mask e) a) λc=>(match c with| [d]=>M7 cx h [b] d|_=>none):=rfl
def DA(cx:Ctx)(h:H)(g:Ty)(a:T):aa lH:=match g.u with
 | .str=>(match a with| .str f=>some (.val (.int .i64 f.length) h)|_=>none)
 | .slice _=>(match a with
  | .dN b _=>some (.val (.int .i64 b.length) h)
  | .gu=>some (.val (.int .i64 0) h)
  | .arr _ _ _ c _=>some (.val (.int .i64 c) h)
  |_=>none)
 | .array d _=>some (.val (.int .i64 d) h)
 |_=>none
def Bk(b:Ty)(a:T):DA cx h b a=(match b.u with
 | .str=>(match a with| .str g=>some (.val (.int .i64 g.length) h)|_=>none)
 | .slice _=>(match a with
  | .dN c _=>some (.val (.int .i64 c.length) h)
  | .gu=>some (.val (.int .i64 0) h)
  | .arr _ _ _ d _=>some (.val (.int .i64 d) h)
  |_=>none)
 | .array f _=>some (.val (.int .i64 f) h)
 |_=>none):=rfl
@[simp] theorem aaI (b:Ty) (a:List Nat) (c:b.u= .str):DA cx h b (.str a)=some (.val (.int .i64 a.length) h):=by rw[Bk,c]
@[simp] theorem EI (b:Ty) (a:List T) (c:Bool) (f:ab) (d:b.u= .slice f):DA cx h b (.dN a c)=some (.val (.int .i64 a.length) h):=by rw[Bk,d]
@[simp] theorem MH (a:Ty) (c:ab) (b:a.u= .slice c):DA cx h a .gu=some (.val (.int .i64 0) h):=by rw[Bk,b]
@[simp] theorem PB (b:Ty) (c d i a:Nat) (f:Bool) (j:ab) (g:b.u= .slice j):DA cx h b (.arr c d i a f)=some (.val (.int .i64 a) h):=by rw[Bk,g]
@[simp] theorem acW (a:ab) (c:T):M7 cx h [a] c=dV (cx.ty a) λb=>DA cx h b c:=by
 show(dV (md [a] 0) λa=>dV (cx.ty a) λb=>_)=_;simp only[kA,List.getElem?_cons_zero,dY];congr 1;funext b;unfold DA;cases b.u<;>first|rfl|(cases c<;>first|rfl|(simp;try rfl))
@[simp] theorem adW (a:List ah) (b:af ab):jn (.call ⟨.builtin .min,a.toArray,b⟩) cx mask e h=dV (fP (fR cx mask e) a) λc=>lm .min cx h b.toList c:=rfl
@[simp] theorem adX (a:List ah) (b:af ab):jn (.call ⟨.builtin .max,a.toArray,b⟩) cx mask e h=dV (fP (fR cx mask e) a) λc=>lm .max cx h b.toList c:=rfl
@[simp] theorem ad7 (f:List ab) (c:ak) (a b:Int):lm .min cx h f [.int c a,.int c b]=some (.val (.int c (min a b)) h):=by
 show val h (gh (Dk c c) (xE c (@Bool.rec (λ_=>Int) a b (K2 b a))))=_;rw[rS,ir,oH,wF];simp only[yh,ar,lH.val.injEq,T.int.injEq,true_and,and_true];by_cases d:b<a
 ·rw[bI d];show b=min a b;omega
 ·rw[aR d];show a=min a b;omega
@[simp] theorem ad8 (f:List ab) (c:ak) (a b:Int):lm .max cx h f [.int c a,.int c b]=some (.val (.int c (max a b)) h):=by
 show val h (gh (Dk c c) (xE c (@Bool.rec (λ_=>Int) a b (K2 a b))))=_;rw[rS,ir,oH,wF];simp only[yh,ar,lH.val.injEq,T.int.injEq,true_and,and_true];by_cases d:a<b
 ·rw[bI d];show b=max a b;omega
 ·rw[aR d];show a=max a b;omega
end
end
noncomputable section
abbrev hE:H:=⟨0,0,[]⟩
structure GA(P:ai)(cx:Ctx)(f:aj)(fn:Func)(mask:Nat)(dl:DL):Prop where
 at_:P.funcs[f]? =some fn
 ok:xf ⟨fn,mask,false,none⟩=true
 dr:mL dl (fn.body.getD .skip)=true
def nI(a:fX):Nat->List T->Prop
 |_,[]=>True
 |i,b::c=>dO a i=some b/\nI a (i+1) c
@[simp] theorem Xy (b:fX) (a:Nat):nI b a []=True:=rfl
@[simp] theorem UX (b:fX) (a:Nat) (c:T) (d:List T):nI b a (c::d)=(dO b a=some c/\nI b (a+1) d):=rfl
def mw(mask:Nat):∀(d a:Nat) (f:List T),f.length<=d->∃b,mo mask d a f=some b/\(∀c,c<a->dO b c=none)/\nI b a f:=by
 intro d;induction d with
 |zero=>
  intro a f hl;have:f=[]:=bj dB;subst this;exact⟨.nil,rfl,λ_ _=>rfl,trivial⟩
 |succ d q=>
  intro a f hl;have s:∀(e:List T) (b:fX) (c:Nat) (m:T) (g:Nat),c<g->nI b g e->nI (.cons c m b) g e:=by
   intro e;induction e with
   |nil=>intro _ _ _ _ _ _;trivial
   |cons l e r=>
    intro b c m g t o;exact⟨by rw[lz,ao dB];exact o.1,r b c m (g+1) dB o.2⟩
  cases f with
  |nil=>
   obtain⟨b,i,j,n⟩:=q (a+1) [] dC;show∃b,(dV (hU (Nat.succ a)) λk=> @Bool.rec (λ_=>aa fX) (mo mask d k []) (dV (mo mask d k []) λh=>some (.cons a .undef h)) (km mask a))=some b/\_;rw[iE,dY];cases km mask a with
   |false=>exact⟨b,i,λc p=>j c dB,trivial⟩
   |true=>
    refine⟨.cons a .undef b,?_,λc p=> ?_,trivial⟩
    ·show(dV (mo mask d (a+1) []) λh=>some (fX.cons a .undef h))=_;rw[i];rfl
    ·rw[lz,ao dB];exact j c dB
  |cons l e=>
   obtain⟨b,i,j,n⟩:=q (a+1) e (by simp at hl;omega);refine⟨.cons a l b,?_,λc p=> ?_,?_,s _ _ _ _ _ dB n⟩
   ·show(dV (hU (Nat.succ a)) λk=>dV (mo mask d k e) λh=>some (fX.cons a l h))=_;rw[iE,dY,i];rfl
   ·rw[lz,ao dB];exact j c dB
   ·rw[lz,aq rfl]
def As(cx:Ctx)(mask:Nat)(d:List ResultVar)(e:fX)(b:H)(c:List T->Prop):Prop:=∃a,mS cx mask ⟨e,.nil⟩ b d=some a/\c a
section
variable {P:ai}{cx:Ctx}{cf:iX}{mask:Nat}
@[simp] theorem abH (e:fX) (c:H) (b:List T->Prop):As cx mask [] e c b=b []:=by
 apply propext;constructor
 ·rintro⟨d,hl,a⟩;have hl:some []=some d:=hl;simp only[ar]at hl;subst hl;exact a
 ·exact λa=>⟨[],rfl,a⟩
def WV(c:aa T)(b:T->Prop):Prop:=∃a,c=some a/\b a
@[simp] theorem ac7 (b:T) (d:T->Prop):WV (some b) d=d b:=by
 apply propext;constructor
 ·rintro⟨e,c,a⟩;simp only[ar]at c;subst c;exact a
 ·exact λa=>⟨b,rfl,a⟩
def EZ(k:ResultVar)(l:List ResultVar)(b:fX)(c:H)(i:List T->Prop):As cx mask (k::l) b c i=
 WV (ResultVar.casesOn k (λh=>Env.get mask ⟨b,.nil⟩ h) (λm h=>dV (Env.get mask ⟨b,.nil⟩ m) λn=>dV (cx.ty h) λo=>c.load o n)) λa=>As cx mask l b c λj=>i (a::j):=by
 apply propext;unfold As WV mS;simp only[jK];constructor
 ·rintro⟨j,hl,d⟩;obtain⟨a,f,hl⟩:=dL.1 hl;obtain⟨g,e,hl⟩:=dL.1 hl;simp only[ar]at hl;subst hl;exact⟨a,f,g,e,d⟩
 ·rintro⟨a,f,g,e,d⟩;refine⟨a::g,?_,d⟩;rw[f,dY,e];rfl
@[simp] theorem abG (e:Tmp) (d:List ResultVar) (a:fX) (b:H) (c:List T->Prop):As cx mask (.tmp e::d) a b c=WV (Env.get mask ⟨a,.nil⟩ e) λg=>As cx mask d a b λf=>c (g::f):=EZ _ d a b c
@[simp] theorem Yt (e:Tmp) (f:ab) (d:List ResultVar) (b:fX) (a:H) (c:List T->Prop):As cx mask (.cell e f::d) b a c=WV (dV (Env.get mask ⟨b,.nil⟩ e) λh=>dV (cx.ty f) λi=>a.load i h) λj=>As cx mask d b a λg=>c (j::g):=EZ _ d b a c
def Cs(cx:Ctx)(mask:Nat)(e:List ResultVar)(d:List T->H->Prop):iO:=
 ⟨λb a=>As cx mask e b.vars a λc=>d c a,λ_ _ _=>False,λb a=>As cx mask e b.vars a λc=>d c a⟩
@[simp] theorem aej (d:List ResultVar) (c:List T->H->Prop) (b:Env) (a:H):(Cs cx mask d c).n b a=As cx mask d b.vars a λe=>c e a:=rfl
@[simp] theorem aei (d:List ResultVar) (c:List T->H->Prop) (b:Env) (a:H):(Cs cx mask d c).r b a=As cx mask d b.vars a λe=>c e a:=rfl
def Dd{g:Out}{h:List ResultVar}{f:List T->H->Prop}(i:W g (Cs cx mask h f)):∃c b a,g=some (c,b,a)/\(c= .normal\/c= .ret)/\As cx mask h b.vars a λj=>f j a:=by
 obtain⟨c,b,a,e,d⟩:=i;cases c with
 |normal=>exact⟨_,b,a,e,.inl rfl,d⟩
 |exit k=>exact d.elim
 |ret=>exact⟨_,b,a,e,.inr rfl,d⟩
def oE{j:List ResultVar}{a:Env}{g:H}{k:List T}(hl:mS cx mask ⟨a.vars,.nil⟩ g j=some k):mS cx mask a g j=some k:=by
 unfold mS at*
 induction j generalizing k with
 |nil=>exact hl
 |cons n j s=>
  rw[jK]at hl|-;obtain⟨b,e,hl⟩:=dL.1 hl;obtain⟨t,o,hl⟩:=dL.1 hl;simp only[ar]at hl;subst hl;have m:∀l b,Env.get mask ⟨a.vars,.nil⟩ l=some b->Env.get mask a l=some b:=by
   intro l b i;obtain⟨v,u⟩:=a;rw[Bn]at i|-;split at i
   ·rename_i p;rw[aq p];exact i
   ·simp[EG]at i
  have r:(@ResultVar.rec (λ_=>aa T) (λc=>Env.get mask a c) (λf c=>dV (Env.get mask a f) λd=>dV (cx.ty c) λh=>g.load h d) n)=some b:=by
   cases n with
   |tmp c=>exact m c b e
   |cell f c=>
    have e:(dV (Env.get mask ⟨a.vars,.nil⟩ f) λd=>dV (cx.ty c) λh=>g.load h d)=some b:=e;obtain⟨d,q,e⟩:=dL.1 e;show(dV (Env.get mask a f) λd=>dV (cx.ty c) λh=>g.load h d)=some b;rw[m f d q];exact e
  refine dL.2 ⟨b,r,dL.2 ⟨t,s o,rfl⟩⟩
end
def QY{l:Env->H->Out}(e:Nat)(g:Nat->fX->H->Prop){k:iO}
 (p:∀a d b,a<=e->g a d b->W (l ⟨d,.nil⟩ b) (xO (λc b=>c.tmps= .nil/\a<e/\g (a+1) c.vars b) k)) {j:Nat} (r:e<j) {a:Nat} (i:a<=e) {d:fX} {b:H} (h:g a d b):W (oo l j ⟨d,.nil⟩ b) k:=by
 refine QW (σ:=Nat) (I:=λa c b=>a<=e/\c.tmps= .nil/\g a c.vars b) (m:=λa=>e-a) ?_ j a _ _ dB ⟨i,rfl,h⟩;rintro a ⟨d,t⟩ b ⟨i,ht,h⟩;simp only at ht h;subst ht;obtain⟨n,c,o,q,f⟩:=p a d b i h;refine⟨n,c,o,q,?_⟩;cases n with
 |normal=>exact⟨a+1,by have:=f.2.1;omega,by have:=f.2.1;omega,f.1,f.2.2⟩
 |exit s=>exact f
 |ret=>exact f
@[simp] theorem afq:Hp hE=True:=by simp[Hp]
@[simp] theorem abN (b:H) (c:iY):Hp (b.cons c)=Hp b:=by
 apply propext;constructor
 ·intro a;unfold Hp at*;simp[H.cons]at a;exact a
 ·exact λa=>TA a c
end
end Go.TI
