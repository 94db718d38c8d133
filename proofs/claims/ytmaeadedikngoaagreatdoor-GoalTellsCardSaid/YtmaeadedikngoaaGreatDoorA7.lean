/- Texts TiQuick to TiSpec. -/
import Derived.Test.YtmaeadedikngoaaGreatDoorA6
import Derived.KernelRfl
set_option linter.all false
namespace Go.TI
noncomputable section
def Xr(a:Fun):Code:=Option.casesOn a.fn.body .skip λb=>b
section
variable {mask nt:Nat}{K:List Nat}{pre:List T}
end
section
variable {P:List T->Prop}
end
end
noncomputable section
mutual
def xV:T->T->Bool
 | .undef,a=>(match a with| .undef=>true|_=>false)
 | .bool y,a=>(match a with| .bool n=>Bool.casesOn y (!n) n|_=>false)
 | .int o q,a=>(match a with| .int p r=>decide (o=p)&&decide (q=r)|_=>false)
 | .str s,a=>(match a with| .str t=>decide (s=t)|_=>false)
 | .kx,a=>(match a with| .kx=>true|_=>false)
 | .kN,a=>(match a with| .kN=>true|_=>false)
 | .kP,a=>(match a with| .kP=>true|_=>false)
 | .nU,a=>(match a with| .nU=>true|_=>false)
 | .gu,a=>(match a with| .gu=>true|_=>false)
 | .ptr a h j l,b=>(match b with| .ptr d i k m=>Nat.beq a d&&Nat.beq h i&&Nat.beq j k&&Nat.beq l m|_=>false)
 | .arr a h j l g,b=>(match b with| .arr d i k m c=>Nat.beq a d&&Nat.beq h i&&Nat.beq j k&&Nat.beq l m&&Bool.casesOn g (!c) c|_=>false)
 | .map a,b=>(match b with| .map d=>Nat.beq a d|_=>false)
 | .dM e g,b=>(match b with| .dM f c=>Bf e f&&Bool.casesOn g (!c) c|_=>false)
 | .agg e,b=>(match b with| .agg f=>Bf e f|_=>false)
 | .func g e,b=>(match b with| .func c f=>Nat.beq g c&&Bf e f|_=>false)
 | .iface u w,b=>(match b with| .iface v x=>Nat.beq u v&&xV w x|_=>false)
 |_,_=>false
def Bf:List T->List T->Bool
 | [],a=>(match a with| []=>true|_=>false)
 |x::b,a=>(match a with|y::c=>xV x y&&Bf b c|_=>false)
end
def Kt{b a:Bool}(c:(@Bool.rec (λ_=>Bool) (!a) a b)=true):b=a:=by cases b<;>cases a<;>simp_all
mutual
def Kc:(h b:T)->xV h b=true->h=b
 | .undef,b,a=>by cases b<;>first|rfl|simp[xV]at a
 | .bool z,b,a=>by
  cases b<;>first|(simp[xV]at a;done)|skip
  rename_i n;have a:(@Bool.rec (λ_=>Bool) (!n) n z)=true:=by unfold xV at a;exact a
  rw[Kt a]
 | .int A B,b,a=>by cases b<;>simp[xV]at a;obtain⟨rfl,rfl⟩:=a;rfl
 | .str C,b,a=>by cases b<;>simp[xV]at a;subst a;rfl
 | .kx,b,a=>by cases b<;>first|rfl|simp[xV]at a
 | .kN,b,a=>by cases b<;>first|rfl|simp[xV]at a
 | .kP,b,a=>by cases b<;>first|rfl|simp[xV]at a
 | .nU,b,a=>by cases b<;>first|rfl|simp[xV]at a
 | .gu,b,a=>by cases b<;>first|rfl|simp[xV]at a
 | .ptr b i j k,c,a=>by cases c<;>simp[xV]at a;obtain⟨⟨⟨rfl,rfl⟩,rfl⟩,rfl⟩:=a;rfl
 | .arr b i j k g,c,a=>by
  cases c<;>first|(simp[xV]at a;done)|skip
  rename_i o p v w f;have a:(Nat.beq b o&&Nat.beq i p&&Nat.beq j v&&Nat.beq k w&& @Bool.rec (λ_=>Bool) (!f) f g)=true:=by unfold xV at a;exact a
  simp only[aB]at a;obtain⟨⟨⟨⟨q,r⟩,s⟩,t⟩,u⟩:=a;rw[aD q,aD r,aD s,aD t,Kt u]
 | .map b,c,a=>by cases c<;>simp[xV]at a;subst a;rfl
 | .dM d g,c,a=>by
  cases c<;>first|(simp[xV]at a;done)|skip
  rename_i e f;have a:(Bf d e&& @Bool.rec (λ_=>Bool) (!f) f g)=true:=by unfold xV at a;exact a
  simp only[aB]at a;rw[Bz d e a.1,Kt a.2]
 | .agg d,c,a=>by
  cases c<;>first|(simp[xV]at a;done)|skip
  rename_i e;have a:Bf d e=true:=by unfold xV at a;exact a
  rw[Bz d e a]
 | .func g d,c,a=>by
  cases c<;>first|(simp[xV]at a;done)|skip
  rename_i f e;have a:(Nat.beq g f&&Bf d e)=true:=by unfold xV at a;exact a
  simp only[aB]at a;rw[aD a.1,Bz d e a.2]
 | .iface x l,c,a=>by
  cases c<;>first|(simp[xV]at a;done)|skip
  rename_i y m;have a:(Nat.beq x y&&xV l m)=true:=by unfold xV at a;exact a
  simp only[aB]at a;rw[aD a.1,Kc l m a.2]
 | .jy _,b,a=>by simp[xV]at a
 | .iter _,b,a=>by simp[xV]at a
 | .tuple _,b,a=>by simp[xV]at a
def Bz:(c b:List T)->Bf c b=true->c=b
 | [],b,a=>by cases b<;>first|rfl|simp[Bf]at a
 |x::d,b,a=>by
  cases b<;>first|(simp[Bf]at a;done)|skip
  rename_i e f;have a:(xV x e&&Bf d f)=true:=by unfold Bf at a;exact a
  simp only[aB]at a;rw[Kc x e a.1,Bz d f a.2]
end
structure Ent where
 f:Nat
 args:List T
 h:H
 r:T
 h':H
def qC(d:ai)(cx:Ctx)(a:Ent):Prop:=
 ∀e b c (g:af am),St cx e b.heap c a.h->gJ b.heap c a.args g.toList->zh d (qD cx e b c a.h a.r a.h') ((callFunc a.f g).run d b)
mutual
def m6:T->Bool
 | .undef| .bool _| .int _ _| .str _| .kx| .gu| .kN| .kP| .nU=>true
 | .dM a _=>mP a
 | .agg a=>mP a
 | .tuple a=>mP a
 | .jy a=>mP a
 | .func _ a=>mP a
 | .iface _ b=>m6 b
 |_=>false
def mP:List T->Bool
 | []=>true
 |x::a=>m6 x&&mP a
end
mutual
def Cx:(c:T)->m6 c=true->pU 0 c
 | .undef,_=> .undef
 | .bool _,_=> .bool _
 | .int _ _,_=> .int _ _
 | .str _,_=> .str _
 | .kx,_=> .kx
 | .gu,_=> .gu
 | .kN,_=> .kN
 | .kP,_=> .kP
 | .nU,_=> .nU
 | .dM b h,a=> .dM _ _ λc f=>by
  obtain⟨d,e,g⟩:=List.mem_flatMap.1 f;exact(lZ b (by unfold m6 at a;exact a) d e).cells c g
 | .agg b,a=> .agg _ (lZ b (by unfold m6 at a;exact a))
 | .tuple b,a=> .tuple _ (lZ b (by unfold m6 at a;exact a))
 | .jy b,a=> .jy _ (lZ b (by unfold m6 at a;exact a))
 | .func _ b,a=> .func _ _ (lZ b (by unfold m6 at a;exact a))
 | .iface _ c,a=> .iface _ _ (Cx c (by unfold m6 at a;exact a))
 | .ptr _ _ _ _,a=>by simp[m6]at a
 | .arr _ _ _ _ _,a=>by simp[m6]at a
 | .iter _,a=>by simp[m6]at a
 | .map _,a=>by simp[m6]at a
def lZ:(d:List T)->mP d=true->∀c∈d,pU 0 c
 | [],_=>λc a=>by simp at a
 |x::g,b=>λc a=>by
  unfold mP at b;rw[aB]at b;have e:=Cx x b.1;rcases List.mem_cons.1 a with f|a
  ·rw[f];exact e
  ·exact lZ g b.2 c a
end
def fD.move{y:af Obj}{z A:Mu}{b:T}{l:am}(a:fD y z b l)(x:∀n,nC A n->nC z n)(hl:pU 0 b):fD y A b l:=by
 induction a with
 |undef=>exact .undef
 |bool h=>exact .bool h
 |int c J=>exact .int c J
 |str K a=>exact .str K a
 |kx=>exact .kx
 |ptr h D n P o g s G O=>cases hl with|ptr _ _ _ _ a=>omega
 |jy r p off arr k fz u t f j hr e=>
  cases hl with|jy _ a=>exact .jy r p off arr k fz (λc=>u (x _ c)) t f j λc b d=>e c b d (a b (ax d))
 |nP m g=>exact .nP m g
 |dM C E m p off q L arr k fz u t w H I f j hr e=>
  cases hl with|dM _ _ a=>exact .dM C E m p off q L arr k fz (λc=>u (x _ c)) t w H I f j λc b d=>e c b d (a b (ax d))
 |gu g q=>exact .gu g q
 |arr h D R Q m o g N s G w v=>cases hl with|arr _ _ _ _ _ a=>omega
 |func F B i f hr e=>cases hl with|func _ _ a=>exact .func F B i f λc b d=>e c b d (a b (ax d))
 |kN=>exact .kN
 |kP=>exact .kP
 |iface k b l a e=>cases hl with|iface _ _ a=>exact .iface k b l (e a)
 |iter h o g s v=>cases hl with|iter _ a=>omega
 |map h o n s v=>cases hl with|map _ a=>omega
 |nU=>exact .nU
 |agg r i f j hr e=>cases hl with|agg _ a=>exact .agg r i f j λc b d=>e c b d (a b (ax d))
 |tuple M i f hr e=>cases hl with|tuple _ a=>exact .tuple M i f λc b d=>e c b d (a b (ax d))
def lr(d:ai)(cx:Ctx)(h:Nat)(g:List T)(i:T):Prop:=
 ∀e a c (f:af am) (b:H),St cx e a.heap c b->gJ a.heap c g f.toList->zh d (qD cx e a c b i b) ((callFunc h f).run d a)
def yw{s:ai}{cx:Ctx}{u:Nat}{k:List T}{y:T}(hl:∀i∈k,pU 0 i)(C:qC s cx ⟨u,k,⟨0,0,[]⟩,y,⟨0,0,[]⟩⟩):lr s cx u k y:=by
 intro O h f t P e v;have q:∀b,nC ⟨λ_=>none,nC f⟩ b->nC f b:=by
  rintro b (⟨d,c,a,_⟩|hr)
  ·simp at a
  ·exact hr
 have D:∀b,nC f b->b<h.heap.size:=by
  rintro b (⟨d,c,a,rfl⟩|hr)
  ·exact e.lt a
  ·exact e.qH b hr
 have J:St cx h.heap.size h.heap ⟨λ_=>none,nC f⟩ ⟨0,0,[]⟩:=by
  refine⟨rfl,au _,λd c a=>by simp at a,λd N c M a=>by simp at a,λd c a=>by simp at a,λd c a=>by simp at a,λb hr=>D b hr,λn m p=> ?_⟩;have:=e.yN n m p;refine this.move q ?_;obtain⟨_,_,_,_,_,_,_,_,_,G,_⟩:=this.ma;exact .jy _ λi l=>(G i l).2.low 0
 have A:gJ h.heap ⟨λ_=>none,nC f⟩ k t.toList:=⟨v.1,λr i l=>(v.2 r i l).move q (hl i (ax l))⟩;refine(C h.heap.size h ⟨λ_=>none,nC f⟩ t J A).mono λi z ⟨⟨L,x,I,g,Q⟩,R⟩=> ?_;have F:∀b,nC f b->nC L b:=λb j=> .inr (by rw[g.ext.pw];exact j);have o:Ext h.heap f z.heap f:=by
  refine⟨g.ext.size,λb j w=>⟨(g.ext.nN b j (λr=>w (q b r))).1,w⟩,λd c a=>⟨c,a,.inl rfl⟩,rfl,λb j hr=> ?_⟩;exact g.ext.kept b j (.inr hr)
 have B:∀d c,f d=some c->z.heap[c.iS]? =h.heap[c.iS]? :=λd c a=>g.ext.kept c.iS (e.lt a) (.inl ⟨d,c,a,rfl⟩);refine⟨⟨f,x.move F (x.low λd c a=>I.ew a),⟨e.wf,aS e.fit g.ext.size,λd c a=> ?_,e.inj,e.low,e.apart,λb hr=>bE (e.qH b hr) g.ext.size,λn m p=>(e.yN n m p).ext o⟩,⟨o,g.os,g.tape,g.output⟩,yg.refl _ _⟩,lm.refl e.wf⟩;obtain⟨K,H,E⟩:=e.box d c a;exact⟨K,H,E.ext o (B d c a)⟩
def AZ:List T->List T->Bool
 | [],a=>(match a with| []=>true|_=>false)
 |x::b,a=>(match a with|y::c=>AZ b c&&xV x y|_=>false)
def Qc:∀(c a:List T),AZ c a=true->c=a:=by
 intro c;induction c with
 |nil=>intro a b;cases a<;>first|rfl|simp[AZ]at b
 |cons f g d=>
  intro a b;cases a with
  |nil=>simp[AZ]at b
  |cons h e=>
   simp only[AZ,aB]at b;rw[Kc _ _ b.2,d e b.1]
abbrev vk:=List (Nat×List (List T×T))
def EX(e:List (List T×T))(b:List T):aa T:=
 @List.rec (List T×T) (λ_=>aa T) none (λc _ d=>Prod.casesOn c λa f=> @Bool.rec (λ_=>aa T) d (some f) (AZ b a)) e
def AY(h:vk)(d:Nat)(b:List T):aa T:=
 @List.rec (Nat×List (List T×T)) (λ_=>aa T) none (λc _ a=>Prod.casesOn c λe f=> @Bool.rec (λ_=>aa T) a (Option.casesOn (EX f b) a λg=>some g) (Nat.beq d e)) h
inductive yf (P:ai) (cx:Ctx):vk->Prop where
 |nil:yf P cx []
 |new {f:Nat} {t:vk}:yf P cx t->yf P cx ((f,[])::t)
 |ent {f:Nat} {a:List T} {r:T} {l:List (List T×T)} {t:vk}:lr P cx f a r->yf P cx ((f,l)::t)->yf P cx ((f,(a,r)::l)::t)
def yf.mem{g:ai}{cx:Ctx}{h:vk}(c:yf g cx h):∀b d,(b,d)∈h->∀a e,(a,e)∈d->lr g cx b a e:=by
 induction c with
 |nil=>intro b d c;simp at c
 |new _ f=>
  intro b d c a e hr;rcases List.mem_cons.1 c with k|k
  ·simp only[ay]at k;obtain⟨_,rfl⟩:=k;simp at hr
  ·exact f b d k a e hr
 |ent i _ f=>
  intro b d c a e hr;rcases List.mem_cons.1 c with k|k
  ·simp only[ay]at k;obtain⟨rfl,rfl⟩:=k;rcases List.mem_cons.1 hr with q|q
   ·simp only[ay]at q;obtain⟨rfl,rfl⟩:=q;exact i
   ·exact f _ _ (dq ..) a e q
  ·exact f b d (cC _ k) a e hr
def M8{c:List (List T×T)}{b:List T}{d:T}(a:EX c b=some d):(b,d)∈c:=by
 induction c with
 |nil=>simp[EX]at a
 |cons g c h=>
  obtain⟨f,r1⟩:=g;have a: @Bool.rec (λ_=>aa T) (EX c b) (some r1) (AZ b f)=some d:=a;cases e:AZ b f with
  |false=>rw[e]at a;exact cC _ (h a)
  |true=>
   rw[e]at a;have a:some r1=some d:=a;simp only[ar]at a;subst a;rw[Qc _ _ e];exact dq ..
def M7{e:vk}{c:Nat}{b:List T}{d:T}(a:AY e c b=some d):∃f,(c,f)∈e/\(b,d)∈f:=by
 induction e with
 |nil=>simp[AY]at a
 |cons l e o=>
  obtain⟨h,f⟩:=l;have a: @Bool.rec (λ_=>aa T) (AY e c b) (@Option.rec T (λ_=>aa T) (AY e c b) (λd=>some d) (EX f b)) (Nat.beq c h)=some d:=a;have k:AY e c b=some d->∃g,(c,g)∈(h,f)::e/\(b,d)∈g:=λp=>by
   obtain⟨g,m,n⟩:=o p;exact⟨g,cC _ m,n⟩
  cases j:Nat.beq c h with
  |false=>rw[j]at a;exact k a
  |true=>
   rw[j]at a;cases i:EX f b with
   |none=>rw[i]at a;exact k a
   |some q=>
    rw[i]at a;have a:some q=some d:=a;simp only[ar]at a;subst a;rw[aD j];exact⟨f,dq ..,M8 i⟩
def PO(h:vk)(ft:aj->aa qp):aj->aa qp:=λb=>
 Option.casesOn (ft b) none λe=>some λd f a c=>Option.casesOn (AY h b a) (e d f a c) λg=>some (g,c)
def PN{i:ai}{cx:Ctx}{h:vk}{ft:aj->aa qp}(y:yf i cx h)(z:∀a c,ft a=some c->mp i cx a c):∀a c,PO h ft a=some c->mp i cx a c:=by
 intro a c d;unfold PO at d;cases k:ft a with
 |none=>rw[k]at d;simp at d
 |some o=>
  rw[k]at d;simp only[ar]at d;subst d;intro n v q e f g j b l t u m s p;have b: @Option.rec T (λ_=>aa (T×H)) (o n q e f) (λg=>some (g,f)) (AY h a e)=some (g,j):=b;cases hE:AY h a e with
  |none=>rw[hE]at b;exact z a o k n v q e f g j b l t u m s p
  |some r=>
   rw[hE]at b;have b:some (r,f)=some (g,j):=b;simp only[ar,ay]at b;obtain⟨rfl,rfl⟩:=b;obtain⟨A,w,x⟩:=M7 hE;exact y.mem a A w e r x l t u m f s p
def xp(b:vk)(ft:aj->aa qp)(a:Nat):iY:=Is (PO b ft) a
def Ir{a:ai}{cx:Ctx}{e:vk}{ft:aj->aa qp}(f:yf a cx e)(g:∀b c,ft b=some c->mp a cx b c)(d:Nat):nL a cx (xp e ft d):=A1 (PN f g) d
def yf.next{c:ai}{cx:Ctx}{f:vk}{ft:aj->aa qp}(n:∀a g,ft a=some g->mp c cx a g){i:Nat}{a:Nat}{d:List (List T×T)}(h:yf c cx ((a,d)::f)){b:List T}{e:T}
 (hl:mP b=true) (m:xp ((a,d)::f) ft i a b ⟨0,0,[]⟩=some (e,⟨0,0,[]⟩)):yf c cx ((a,(b,e)::d)::f):=
 .ent (yw (lZ b hl) λj p q k o l=>Ir h n i a b ⟨0,0,[]⟩ e ⟨0,0,[]⟩ m j p q k o l) h
def put(a:fW)(b:Nat)(d:T):fW:=(lV a b d).getD a
def pq(e:fW)(a:Nat)(d:T):lV e a d=some (put e a d):=by
 have:∃c,lV e a d=some c:=by
  induction e with
  |nil=>exact⟨_,rfl⟩
  |cons b h c i=>
   obtain⟨f,ht⟩:=i;cases g:Nat.beq b a with
   |true=>exact⟨.cons b d c,by show @Bool.rec (λ_=>aa fW) _ _ (Nat.beq b a)=_;rw[g]⟩
   |false=>exact⟨.cons b h f,by show @Bool.rec (λ_=>aa fW) (dU (lV c a d) λf=>some (.cons b h f)) _ (Nat.beq b a)=_;rw[g,ht];rfl⟩
 obtain⟨c,hr⟩:=this;rw[hr];unfold put;rw[hr];rfl
def lK(b:Nat)(d:T)(c:fW)(a:Nat):dL (.cons b d c) a=if b=a then some d else dL c a:=by
 show @Bool.rec (λ_=>aa T) (dL c a) (some d) (Nat.beq b a)=_;cases e:Nat.beq b a with
 |true=>rw[aq (aD e)]
 |false=>rw[ao (cO e)]
def EM(a:Nat):dL .nil a=none:=rfl
def PS(g:fW)(b:Nat)(c:T)(j:Nat):dL (put g b c) j=if b=j then some c else dL g j:=by
 have a:=pq g b c;generalize put g b c=f at a;induction g generalizing f with
 |nil=>
  have a:some (fW.cons b c .nil)=some f:=a;simp only[ar]at a;subst a;rw[lK,EM]
 |cons e k d l=>
  have a: @Bool.rec (λ_=>aa fW) (dU (lV d b c) λd=>some (.cons e k d)) (some (.cons e c d)) (Nat.beq e b)=some f:=a;cases h:Nat.beq e b with
  |true=>
   rw[h]at a;have a:some (fW.cons e c d)=some f:=a;simp only[ar]at a;subst a;have:=aD h;subst this;simp only[lK];split<;>rfl
  |false=>
   rw[h]at a;have a:(dU (lV d b c) λd=>some (fW.cons e k d))=some f:=a;rw[pq]at a;simp only[dX,ar]at a;subst a;have:=cO h;rw[lK,lK,l _ (pq _ _ _)];split
   ·rename_i i;subst i;rw[ao (λi=>this i.symm)]
   ·rfl
structure iM where
 n:Env->H->Prop
 x:Nat->Env->H->Prop
 r:Env->H->Prop
def W(f:Out)(c:iM):Prop:=∃d a b,f=some (d,a,b)/\Ex.casesOn d (c.n a b) (λe=>c.x e a b) (c.r a b)
@[simp] theorem Do (a:Env) (b:H) (d:iM):W (some (.normal,a,b)) d=d.n a b:=by
 apply propext;constructor
 ·rintro⟨h,f,g,e,c⟩;simp only[ar,ay]at e;obtain⟨rfl,rfl,rfl⟩:=e;exact c
 ·exact λc=>⟨_,a,b,rfl,c⟩
@[simp] theorem Dp (f:Nat) (a:Env) (b:H) (d:iM):W (some (.exit f,a,b)) d=d.x f a b:=by
 apply propext;constructor
 ·rintro⟨i,g,h,e,c⟩;simp only[ar,ay]at e;obtain⟨rfl,rfl,rfl⟩:=e;exact c
 ·exact λc=>⟨_,a,b,rfl,c⟩
@[simp] theorem U4 (a:Env) (b:H) (d:iM):W (some (.ret,a,b)) d=d.r a b:=by
 apply propext;constructor
 ·rintro⟨h,f,g,e,c⟩;simp only[ar,ay]at e;obtain⟨rfl,rfl,rfl⟩:=e;exact c
 ·exact λc=>⟨_,a,b,rfl,c⟩
def Q7(a:iM):¬W none a:=by rintro⟨e,c,d,b,_⟩;simp at b
def FK(b:Env->H->Out)(a:iM):iM:=⟨λc d=>W (b c d) a,a.x,a.r⟩
def rV(id:Nat)(a:iM):iM:=⟨a.n,λd b c=>if d=id then a.n b c else a.x d b c,a.r⟩
def xQ(b:Env->H->Prop)(a:iM):iM:=⟨b,a.x,a.r⟩
@[simp] theorem aeo (b:Env->H->Out) (a:iM) (c:Env) (d:H):(FK b a).n c d=W (b c d) a:=rfl
@[simp] theorem Wj (e:Env->H->Out) (a:iM) (d:Nat) (b:Env) (c:H):(FK e a).x d b c=a.x d b c:=rfl
@[simp] theorem aen (d:Env->H->Out) (a:iM) (b:Env) (c:H):(FK d a).r b c=a.r b c:=rfl
@[simp] theorem aaX (id:Nat) (a:iM) (b:Env) (c:H):(rV id a).n b c=a.n b c:=rfl
@[simp] theorem yK (id:Nat) (a:iM) (d:Nat) (b:Env) (c:H):(rV id a).x d b c=if d=id then a.n b c else a.x d b c:=rfl
@[simp] theorem aaW (id:Nat) (a:iM) (b:Env) (c:H):(rV id a).r b c=a.r b c:=rfl
@[simp] theorem aer (a:Env->H->Prop) (d:iM) (b:Env) (c:H):(xQ a d).n b c=a b c:=rfl
@[simp] theorem aep (e:Env->H->Prop) (a:iM) (d:Nat) (b:Env) (c:H):(xQ e a).x d b c=a.x d b c:=rfl
@[simp] theorem aeq (d:Env->H->Prop) (a:iM) (b:Env) (c:H):(xQ d a).r b c=a.r b c:=rfl
@[simp] theorem abQ (c e:Env->H->Out) (a:Env) (b:H) (d:iM):W (B0 c e a b) d=W (c a b) (FK e d):=by
 apply propext;unfold B0;cases k:c a b with
 |none=>constructor<;>(rintro⟨f,a,b,g,_⟩;simp[dU]at g)
 |some h=>
  obtain⟨f,i,j⟩:=h;simp only[dX,kS];cases f<;>simp
@[simp] theorem TG (id:Nat) (g:Env->H->Out) (b:Env) (d:H) (a:iM):W (x8 id g b d) a=W (g b d) (rV id a):=by
 apply propext;unfold x8;cases l:g b d with
 |none=>constructor<;>(rintro⟨i,b,d,j,_⟩;simp[dU]at j)
 |some k=>
  obtain⟨i,c,e⟩:=k;simp only[dX,kS];cases i with
  |normal=>simp
  |ret=>simp
  |exit f=>
   show W (@Bool.rec (λ_=>Out) (some (.exit f,c,e)) (some (.normal,c,e)) (Nat.beq f id)) a↔_;cases h:Nat.beq f id with
   |true=>
    show W (some (.normal,c,e)) a↔_;rw[Do,Dp,yK,aq (aD h)]
   |false=>
    show W (some (.exit f,c,e)) a↔_;rw[Dp,Dp,yK,ao (cO h)]
def Qq(d:aa T)(a b:Prop):Prop:=match d with
 |some (.bool c)=>if c=true then a else b
 |_=>False
def Q9{σ:Type}{g:Env->H->Out}(I:σ->Env->H->Prop)(m:σ->Nat){i:iM}
 (r:∀c a b,I c a b->W (g a b) (xQ (λe f=>∃h,m h<m c/\I h e f) i)):
 ∀d c a b,m c<d->I c a b->W (ox g d a b) i:=by
 intro d;induction d with
 |zero=>intro c a b t;omega
 |succ d u=>
  intro c a b t p;obtain⟨k,n,o,s,j⟩:=r c a b p;show W (dU (g a b) λv=>three v λk e f=> @Ex.rec (λ_=>Out) (ox g d e f) (λl=>some (.exit l,e,f)) (some (.ret,e,f)) k) i;rw[s];simp only[dX,kS];cases k with
  |normal=>
   obtain⟨h,w,q⟩:=j;exact u h n o dz q
  |exit l=>exact(Dp _ _ _ _).mpr j
  |ret=>exact(U4 _ _ _).mpr j
section
variable {P:ai}{cx:Ctx}
end
end
noncomputable section
@[simp] theorem acP (c:iY) (d a:H) (b:T):fin c d (some (.val b a))=some (b,a):=rfl
@[simp] theorem abu (b:iY) (d:H) (c:aj) (a:List T):fin b d (some (.call c a))=b c a d:=rfl
@[simp] theorem yk (a:H) (b:T):val a (some b)=some (.val b a):=rfl
@[simp] theorem AD (a:H) (b:T):jA (some (b,a))=some (.val b a):=rfl
def SO(a b:List Nat):UT a b=decide (a=b):=by rw[Gh,bI];simp
def SP(a b:Int):Rz a b=decide (a=b):=by rw[xW];rfl
def wH(a b:Int):Lg a b=decide (a<b):=xP a b
@[simp] theorem rX (a:ak):Dx a a=true:=by cases a<;>rfl
@[simp] theorem WH (d a:ak) (b c:Int):r8 (.int d) (.int a b) (.int a c)=some (decide (b=c)):=by
 show gD (Dx a a) (some (Rz b c))=_;rw[rX,SP];rfl
@[simp] theorem WF (a b:List Nat):r8 .str (.str a) (.str b)=some (decide (a=b)):=by
 show some (UT a b)=_;rw[SO]
@[simp] theorem UU (a b:Bool):r8 .bool (.bool a) (.bool b)=some (a==b):=by cases a<;>cases b<;>rfl
@[simp] theorem Yz (a:ak) (b c:Int):binop .lss (.int a b) (.int a c)=some (.bool (decide (b<c))):=by
 show gD (Dx a a) (xa (Lg b c))=_;rw[rX,wH,iu,rN]
@[simp] theorem YA (a:ak) (b c:Int):binop .leq (.int a b) (.int a c)=some (.bool (decide (b<=c))):=by
 show gD (Dx a a) (xa (!Lg c b))=_;rw[rX,wH,iu,rN];congr 2;rw[bI];simp
@[simp] theorem YB (a:ak) (b c:Int):binop .gtr (.int a b) (.int a c)=some (.bool (decide (c<b))):=by
 show gD (Dx a a) (xa (Lg c b))=_;rw[rX,wH,iu,rN]
@[simp] theorem YC (a:ak) (b c:Int):binop .geq (.int a b) (.int a c)=some (.bool (decide (c<=b))):=by
 show gD (Dx a a) (xa (!Lg b c))=_;rw[rX,wH,iu,rN];congr 2;rw[bI];simp
def jI{a:Int}(d: -9223372036854775808<=a)(c:a<9223372036854775808):KG .i64 a=a:=by
 cases a with
 |ofNat b=>
  show @Bool.rec (λ_=>Int) _ _ (Nat.ble b 9223372036854775807)=_;rw[ci (by simp at c;omega)]
 |negSucc b=>
  show @Bool.rec (λ_=>Int) _ _ (Nat.ble b 9223372036854775807)=_;rw[ci dz]
def Hc{a:Int}(b: -9223372036854775808<=a)(c:a<9223372036854775808):pY .i64 a=some (.int .i64 a):=by
 unfold pY;rw[jI b c,oO]
def ik{a b:Int}(c: -9223372036854775808<=a+b)(d:a+b<9223372036854775808):binop .add (.int .i64 a) (.int .i64 b)=some (.int .i64 (a+b)):=Hc c d
def kF{a b:Int}(c: -9223372036854775808<=a-b)(d:a-b<9223372036854775808):binop .sub (.int .i64 a) (.int .i64 b)=some (.int .i64 (a-b)):=Hc c d
def Kv{a b:Nat}(c:a<b)(d:b<9223372036854775808):binop .add (.int .i64 (a:Int)) (.int .i64 1)=some (.int .i64 ((a+1:Nat):Int)):=by
 rw[ik dz dz];rfl
@[simp] theorem YQ (a:Bool):unop .not (.bool a)=some (.bool !a):=by cases a<;>rfl
def PU{b:Type}(a:List b):kW a=a.length:=jE a
@[simp] theorem Yd (b:H) (a:List T) (c:Bool):ael b (.dM a c)=some (.val (.int .i64 (a.length:Nat)) b):=by
 show val b (dU (gY (kW a)) λd=>some (.int .i64 (.ofNat d)))=_;rw[PU,iE];rfl
@[simp] theorem Yr (a:List Nat):(T.str a).cells=[.str a]:=id rfl
@[simp] theorem Yt (a:ak) (b:Int):(T.int a b).cells=[.int a b]:=id rfl
@[simp] theorem Xb (a:Bool):(T.bool a).cells=[.bool a]:=id rfl
@[simp] theorem Yv (a:List T):(T.agg a).cells=a:=id rfl
@[simp] theorem uV (a b:Nat):Nat.beq a b=decide (a=b):=by
 rw[bI];simp
@[simp] theorem LL (a b:Nat):Nat.ble a b=decide (a<=b):=by
 rw[bI];simp
@[simp] theorem Tu (a b:Nat):Nat.blt a b=decide (a<b):=by
 rw[bI,aH];simp
@[simp] theorem abd (a:List Nat):(T.str a).il=true:=id rfl
@[simp] theorem abf (a:ak) (b:Int):(T.int a b).il=true:=id rfl
@[simp] theorem Yj (a:Bool):(T.bool a).il=true:=id rfl
@[simp] theorem Yi (a:List T) (b:Bool):(T.dM a b).il=true:=id rfl
@[simp] theorem abh (a:List T):(T.agg a).il=true:=id rfl
@[simp] theorem abv (off:Nat) (b:H) (a:List T):faV off b (.jy a)=dU (jX off a) λc=>some (lN.val (.jy c) b):=rfl
@[simp] theorem Yc (c:H) (b:Ty) (a:List T):c.load b (.jy a)=kl b a:=rfl
@[simp] theorem acV {b:Type} (a:List b):jX 0 a=some a:=rfl
@[simp] theorem acU {c:Type} (b:Nat) (d:c) (a:List c):jX (b+1) (d::a)=jX b a:=rfl
@[simp] theorem ace {b:Type} (a:List b):takeN 0 a=some []:=rfl
@[simp] theorem acd {d:Type} (b:Nat) (c:d) (a:List d):takeN (b+1) (c::a)=dU (takeN b a) λe=>some (c::e):=rfl
@[simp] theorem Ym (a:H) (c:List T) (b:Nat):exV a (.tuple c) b=val a (mm c b):=rfl
end
noncomputable section
open Classical in
@[simp] theorem EL:mP []=true:=by unfold mP;rfl
@[simp] theorem Cw (a:T) (b:List T):mP (a::b)=(m6 a&&mP b):=by rw[mP]
@[simp] theorem HL (a:ak) (b:Int):m6 (.int a b)=true:=by unfold m6;rfl
@[simp] theorem Yb (a:Bool):m6 (.bool a)=true:=by unfold m6;rfl
@[simp] theorem HK (a:List Nat):m6 (.str a)=true:=by unfold m6;rfl
@[simp] theorem X9:m6 .gu=true:=by unfold m6;rfl
@[simp] theorem Ya (a:List T) (b:Bool):m6 (.dM a b)=mP a:=by rw[m6]
@[simp] theorem HM (a:List T):m6 (.agg a)=mP a:=by rw[m6]
def MU{d:Type}(c:d->T)(e:∀b,m6 (c b)=true):∀a:List d,mP (a.map c)=true:=by
 intro a;induction a with
 |nil=>simp
 |cons b a f=>simp[e b,f]
def SL(b:T)(a:List T):Prop:=(b= .gu/\a=[])\/∃c,b= .dM a c
def sl(a:List T):T:=match a with| []=> .gu|x::b=> .dM (x::b) false
def TJ(a:List T)(b:Bool):SL (.dM a b) a:= .inr ⟨b,rfl⟩
def SL.jf{b:T}{a:List T}(d:SL b a)(c:H):c.jf b=some a:=by
 rcases d with⟨rfl,rfl⟩|⟨e,rfl⟩<;>rfl
def SL.cells{a:T}{b:List T}(c:SL a b):a.cells=[a]:=by
 rcases c with⟨rfl,rfl⟩|⟨d,rfl⟩<;>rfl
def SL.il{a:T}{b:List T}(c:SL a b):a.il=true:=by
 rcases c with⟨rfl,rfl⟩|⟨d,rfl⟩<;>rfl
end
noncomputable section
def Hp(a:H):Prop:=a.fx.length=a.size
def TQ{a:H}(b:Hp a)(c:iZ):Hp (a.cons c):=by unfold Hp at*;simp[H.cons,b]
@[simp] theorem size_cons (a:H) (b:iZ):(a.cons b).size=a.size+1:=rfl
def dY(a:H)(b:Nat)(c:iZ):H:=(a.put b c).getD a
def Hg{b:H}(i:Hp b){a:Nat}(h:a<b.size)(e:iZ):b.put a e=some (dY b a e):=by
 have:∃d,b.put a e=some d:=by
  obtain⟨c,f,j⟩:=b;unfold Hp at i;simp only at i h;show∃d,(gD (Nat.blt a c) (dU (kM j (Nat.sub (Nat.sub c 1) a) e) λg=> @Bool.rec (λ_=>aa H) (some ⟨c,f,g⟩) (some ⟨c,a,g⟩) (Nat.blt a f)))=some d;rw[show Nat.blt a c=true by rw[aH];exact h,iu,kO,aq (by show c-1-a<_;omega),dX];cases Nat.blt a f<;>exact⟨_,rfl⟩
 obtain⟨d,k⟩:=this;unfold dY;rw[k];rfl
def Jk{b:H}(i:Hp b){a:Nat}(g:a<b.size)(d:iZ):Hp (dY b a d)/\(dY b a d).size=b.size/\∀e,(dY b a d).get e=if e=a then some d else b.get e:=by
 have f:=Hg i g d;generalize dY b a d=j at*
 obtain⟨c,l,m⟩:=b;unfold Hp at*
 simp only at i g;have f:(gD (Nat.blt a c) (dU (kM m (Nat.sub (Nat.sub c 1) a) d) λn=> @Bool.rec (λ_=>aa H) (some ⟨c,l,n⟩) (some ⟨c,a,n⟩) (Nat.blt a l)))=some j:=f;rw[show Nat.blt a c=true by rw[aH];exact g,iu,kO,aq (by show c-1-a<_;omega),dX]at f;have q:j.size=c/\j.fx=m.set (c-1-a) d:=by
  cases hl:Nat.blt a l<;>rw[hl]at f<;>simp only[ar]at f<;>subst f<;>exact⟨rfl,rfl⟩
 obtain⟨k,p⟩:=q;refine⟨by rw[k,p];simp[i],k,λe=> ?_⟩;rw[H.get_eq,H.get_eq,k,p];by_cases o:e=a
 ·subst o;rw[aq g,aq rfl];simp[bW,i];omega
 ·rw[ao o];simp only;by_cases h:e<c
  ·rw[aq h,aq h,cI dz]
  ·rw[ao h,ao h]
def get_put{b:H}(f:Hp b){c:Nat}(e:c<b.size)(d:iZ)(a:Nat):(dY b c d).get a=if a=c then some d else b.get a:=(Jk f e d).2.2 a
@[simp] theorem acR (off:Nat) (c:H) (a b d e:Nat):faV off c (.ptr a b d e)=some (.val (.ptr a b d (e+off)) c):=by
 show(dU (gY (Nat.add e off)) λf=>some (lN.val (.ptr a b d f) c))=_;rw[iE];rfl
@[simp] theorem PK (a:H) (b:Nat->T) (c:iZ):jA (a.new b c)=some (.val (b a.size) (a.cons c)):=by rw[H.kI];rfl
def JR{a:H}(b:Hp a)(g d:T):ug 0 0 g d a=some (d,⟨0,0,[]⟩):=by
 obtain⟨c,f,e⟩:=a;unfold Hp at b;simp only at b;unfold ug;simp only;rw[show Nat.sub c 0=c from rfl,md,aq dz,dX,show Nat.ble 0 f=true by simp];simp[show e.drop c=[]by simp[b]]
def HQ{a:H}(e:Hp a){b c:T}(d:jm a 0 b=some c):Cz false 0 0 b a=some (c,⟨0,0,[]⟩):=by
 show @Option.rec T (λ_=>aa (T×H)) (nl 0 b a) (λc=>ug 0 0 b c a) (jm a 0 b)=_;rw[d];exact JR e b c
inductive TR:T->Prop where
 |bool (b:Bool):TR (.bool b)
 |int (k:ak) (n:Int):TR (.int k n)
 |str (s:List Nat):TR (.str s)
 |dM (es:List T) (f:Bool):TR (.dM es f)
 |gu:TR .gu
def TR.freeze{a:T}(d:TR a)(c:H)(e b:Nat):freeze c e (b+1) a=some a:=by cases d<;>rfl
def sO{c:T->aa T}{a:List T}(d:∀b∈a,c b=some b):fN c a=some a:=by
 induction a with
 |nil=>rfl
 |cons b h f=>
  rw[jH,d b dA,f λg e=>d g (by simp[e])];rfl
def ab4(b:T):Prop:=TR b\/∃a,b= .agg a/\∀c∈a,TR c
def ab4.freeze{e:T}(d:ab4 e)(b:H)(c a:Nat):freeze b c (a+2) e=some e:=by
 rcases d with d|⟨f,rfl,g⟩
 ·exact d.freeze b c (a+1)
 ·show(dU (fN (Go.TI.freeze b c (a+1)) f) λi=>some (T.agg i))=_;rw[sO λj h=>(g j h).freeze b c a];rfl
def Ai(b:List (Nat×Nat))(c d:Nat):Bool:=b.any λa=>a.1==c&&a.2==d
def lL(a:List (Nat×Nat))(b:Nat):Bool:=a.any λc=>c.1==b
def EW{a:List (Nat×Nat)}{b d:Nat}(h:Ai a b d=true):lL a b=true:=by
 unfold Ai at h;unfold lL;rw[List.any_eq_true]at h|-;obtain⟨f,c,h⟩:=h;exact⟨f,c,by simp at h;simp[h.1]⟩
def Te(g:List (Nat×Nat))(c:af Oper):Bool:=
 let f:=Kw c.toList []
 let d:=c.toList.zipIdx
 d.all λa=>d.all λb=> !Nat.blt b.2 a.2|| !((sP b.1.op&&iC a.1.op)||(iC b.1.op&&(sP a.1.op||iC a.1.op)))||(f.getD a.2 0).testBit b.2||Ai g b.2 a.2
def C7{j:List (Nat×Nat)}{g:af Oper}(k:Te j g=true){b c:Nat}{f d:Oper}(p:g[b]? =some f)(r:g[c]? =some d)(q:b<c)
 (s:(sP f.op=true/\iC d.op=true)\/(iC f.op=true/\(sP d.op=true\/iC d.op=true))):jL g b c=true\/Ai j b c=true:=by
 unfold Te at k;have m:=List.all_eq_true.1 k (d,c) (mem_zipIdx r);have a:=List.all_eq_true.1 m (f,b) (mem_zipIdx p);have o:Nat.blt b c=true:=by rw[aH];exact q
 simp only[o,cM,Bool.false_or,bV,bR]at a;rcases a with(a|a)|a
 ·exfalso;rcases s with⟨l,i⟩|⟨l,i|i⟩<;>simp[l,i]at a
 ·exact .inl a
 ·exact .inr a
def mJ(c:List (Nat×Nat))(f b:Nat)(d:List (Nat×H×H)):Prop:=∀a∈d,Ai c a.1 f=true->fc a.2.1 a.2.2 b=true
def vZ(b:List (Nat×Nat))(d:Nat)(h c:H)(f:List (Nat×Nat)):Prop:=∀a∈f,Ai b a.1 d=true->fc h c a.2=true
@[simp] theorem Wf (b:List (Nat×Nat)) (c a:Nat):mJ b c a []=True:=by simp[mJ]
@[simp] theorem UL (b:List (Nat×Nat)) (c a g:Nat) (h f:H) (d:List (Nat×H×H)):mJ b c a ((g,h,f)::d)=((Ai b g c=true->fc h f a=true)/\mJ b c a d):=by simp[mJ]
@[simp] theorem Yn (a:List (Nat×Nat)) (c:Nat) (h b:H):vZ a c h b []=True:=by simp[vZ]
@[simp] theorem WJ (a:List (Nat×Nat)) (c f d:Nat) (h b:H) (g:List (Nat×Nat)):vZ a c h b ((f,d)::g)=((Ai a f c=true->fc h b d=true)/\vZ a c h b g):=by simp[vZ]
open Classical in
def w8(cx:Ctx)(cf:iY)(mask:Nat)(g:af Oper)(b:List (Nat×Nat)):List Oper->Nat->List (Nat×Nat)->List (Nat×H×H)->Env->H->aa (Env×H)
 | [],_,_,_,e,h=>some (e,h)
 |o::k,a,f,c,e,h=>dU (lH cx cf mask g e h o) λm=>two m λj d=>
  dU (kw g mask e o.guard) λr=>
   if r=true then
    if iC o.op=true then
     if vZ b a h d f/\(∀p l q i,o.op= .store p l q->dU (fP cx mask e l) dS=some i->mJ b a i c)then
      w8 cx cf mask g b k (a+1) f (if lL b a=true then(a,h,d)::c else c) j d else none
    else match gG cx mask e h o.op with
     |none=>w8 cx cf mask g b k (a+1) f c j d
     |some i=>if mJ b a i c then w8 cx cf mask g b k (a+1) (if lL b a=true then(a,i)::f else f) c j d else none
   else w8 cx cf mask g b k (a+1) f c j d
section
variable {cx:Ctx}{cf:iY}{n mask:Nat}
def G8{s:List (Nat×Nat)}{f:af Oper}(K:Te s f=true):∀(l:List Oper) (b:Nat) (v:List (Nat×Nat)) (r:List (Nat×H×H)) (g:Seen) (e:Env) (h:H) (p:Env×H),(∀q,l[q]? =f[b+q]?)->
 (∀a∈g.mv,a.1<b/\(∃d,f[a.1]? =some d/\sP d.op=true)/\(lL s a.1=true->a∈v))->
 (∀a∈g.kZ,a.1<b/\(∃d,f[a.1]? =some d/\iC d.op=true)/\(lL s a.1=true->a∈r))->
 w8 cx cf mask f s l b v r e h=some p->j2 cx cf mask f l b g e h=some p:=by
 intro l;induction l with
 |nil=>intro b v r g e h p _ _ _ c;exact c
 |cons d l D=>
  intro b v r g e h p hl G F c;have A:f[b]? =some d:=by have:=hl 0;simpa using this.symm
  have B:∀q,l[q]? =f[b+1+q]? :=λq=>by
   have:=hl (q+1);simp only[dp]at this;rw[this];congr 1;omega
  show(dU (lH cx cf mask f e h d) λa=>two a λm i=>
   dU (kw f mask e d.guard) λX=> @Bool.rec (λ_=>aa (Env×H)) (j2 cx cf mask f l (b+1) g m i)
    (@Bool.rec (λ_=>aa (Env×H))
      (@Option.rec Nat (λ_=>aa (Env×H)) (j2 cx cf mask f l (b+1) g m i)
        (λj=>gD (ot f b j g.kZ) (j2 cx cf mask f l (b+1) ⟨(b,j)::g.mv,g.kZ⟩ m i)) (gG cx mask e h d.op))
      (gD (xl f b h i g.mv) (gD (qO cx mask f b e g.kZ d.op) (j2 cx cf mask f l (b+1) ⟨g.mv,(b,h,i)::g.kZ⟩ m i))) (iC d.op)) X)=some p
  unfold w8 at c;obtain⟨⟨m,i⟩,S,c⟩:=dJ.1 c;simp only[kG]at c;obtain⟨W,T,c⟩:=dJ.1 c;rw[S,dX,kG,T,dX];have C:∀a∈g.mv,a.1<b+1/\(∃d,f[a.1]? =some d/\sP d.op=true)/\(lL s a.1=true->a∈v):=λa hp=>⟨by have:=(G a hp).1;omega,(G a hp).2⟩;have z:∀a∈g.kZ,a.1<b+1/\(∃d,f[a.1]? =some d/\iC d.op=true)/\(lL s a.1=true->a∈r):=λa hp=>⟨by have:=(F a hp).1;omega,(F a hp).2⟩;have lk:∀j,(sP d.op=true\/iC d.op=true)->mJ s b j r->ot f b j g.kZ=true:=by
   intro j Q w;unfold ot;rw[ze,cB];intro a hp;obtain⟨t,⟨U,u,o⟩,J⟩:=F a hp;show @Bool.rec (λ_=>Bool) (jL f a.1 b) true (fc a.2.1 a.2.2 j)=true;rcases C7 K u A t (.inr ⟨o,Q⟩)with I|y
   ·rw[I];cases fc a.2.1 a.2.2 j<;>rfl
   ·rw[w a (J (EW y)) y]
  cases W with
  |false=>simp only[cr,br]at c;exact D (b+1) v r g m i p B C z c
  |true=>
   simp only[bh]at c;cases x:iC d.op with
   |true=>
    rw[x]at c;simp only[bh]at c;split at c
    ·rename_i w;have N:xl f b h i g.mv=true:=by
      unfold xl;rw[ze,cB];intro a hp;obtain⟨t,⟨U,u,o⟩,J⟩:=G a hp;show @Bool.rec (λ_=>Bool) (jL f a.1 b) true (fc h i a.2)=true;rcases C7 K u A t (.inl ⟨o,x⟩)with I|y
      ·rw[I];cases fc h i a.2<;>rfl
      ·rw[w.1 a (J (EW y)) y]
     have O:qO cx mask f b e g.kZ d.op=true:=by
      unfold qO;split
      ·rename_i q M V R;cases P:dU (fP cx mask e M) dS with
       |none=>rfl
       |some j=>exact lk j (.inr x) (w.2 q M V j R P)
      ·rfl
     simp only[N,O,iu];refine D (b+1) _ _ _ m i p B C (λa hp=> ?_) c;rcases List.mem_cons.1 hp with rfl|hp
     ·refine⟨dA,⟨d,A,x⟩,λk=> ?_⟩;simp only at k;rw[aq k];exact dq ..
     ·obtain⟨t,u,o⟩:=z a hp;refine⟨t,u,λk=> ?_⟩;split
      ·exact cC _ (o k)
      ·exact o k
    ·simp at c
   |false=>
    rw[x]at c;simp only[cr,br]at c;simp only;cases E:gG cx mask e h d.op with
    |none=>rw[E]at c;exact D (b+1) v r g m i p B C z c
    |some j=>
     rw[E]at c;simp only at c;split at c
     ·rename_i w;have L:=HN E;simp only[lk j (.inl L) w,iu];refine D (b+1) _ _ _ m i p B (λa hp=> ?_) z c;rcases List.mem_cons.1 hp with rfl|hp
      ·refine⟨dA,⟨d,A,L⟩,λk=> ?_⟩;simp only at k;rw[aq k];exact dq ..
      ·obtain⟨t,u,o⟩:=C a hp;refine⟨t,u,λk=> ?_⟩;split
       ·exact cC _ (o k)
       ·exact o k
     ·simp at c
abbrev DL:=List (Nat×List (Nat×Nat))
def N9(cx:Ctx)(cf:iY)(mask:Nat)(dl:DL)(id:Nat)(a:af Oper)(e:Env)(h:H):Out:=
 match dl.lookup id with
 |none=>dU (kA cx cf mask a a.toList ⟨e.vars,.nil⟩ h) λd=>two d λb c=>some (.normal,⟨b.vars,.nil⟩,c)
 |some f=>dU (w8 cx cf mask a f a.toList 0 [] [] ⟨e.vars,.nil⟩ h) λd=>two d λb c=>some (.normal,⟨b.vars,.nil⟩,c)
def jB(cx:Ctx)(cf:iY)(b mask:Nat)(dl:DL):Code->Env->H->Out
 | .skip=>λe h=>some (.normal,e,h)
 | .region id f _=>N9 cx cf mask dl id f
 | .seq c a=>B0 (jB cx cf b mask dl c) (jB cx cf b mask dl a)
 | .cond d c a=>Il cx mask d (jB cx cf b mask dl c) (jB cx cf b mask dl a)
 | .block id a=>x8 id (jB cx cf b mask dl a)
 | .loop a=>ox (jB cx cf b mask dl a) b
 | .exit id=>λe h=>some (.exit id,e,h)
 | .ret=>λe h=>some (.ret,e,h)
 |_=>λ_ _=>none
def mR(dl:DL):Code->Bool
 | .region id d c=>(match dl.lookup id with|none=> !c||KO d|some f=>c&&Te f d)
 | .seq a b=>mR dl a&&mR dl b
 | .cond _ a b=>mR dl a&&mR dl b
 | .block _ a=>mR dl a
 | .loop a=>mR dl a
 |_=>true
def qm{dl:DL}:∀(p:Code),mR dl p=true->∀e h b,jB cx cf n mask dl p e h=some b->j4 cx cf n mask p e h=some b:=by
 intro p;induction p with
 |region id k A=>
  intro c e h b a;obtain⟨s,E⟩:=e;replace a:N9 cx cf mask dl id k ⟨s,E⟩ h=some b:=a;unfold N9 at a;simp only[mR]at c;cases hl:dl.lookup id with
  |none=>
   rw[hl]at a c;simp only at a c;cases A with
   |false=>exact a
   |true=>
    simp only[cM,Bool.false_or]at c;show(dU (j2 cx cf mask k k.toList 0 ⟨[],[]⟩ ⟨s,.nil⟩ h) λb=>two b λf g=>some (Ex.normal,(⟨f.vars,.nil⟩:Env),g))=some b;rw[Fe c k.toList 0 ⟨[],[]⟩ ⟨s,.nil⟩ h (λy=>by simp) (λm i=>by simp at i) (λm i=>by simp at i)];exact a
  |some G=>
   rw[hl]at a c;simp only[aB]at a c;obtain⟨rfl,c⟩:=c;obtain⟨m,i,a⟩:=dJ.1 a;show(dU (j2 cx cf mask k k.toList 0 ⟨[],[]⟩ ⟨s,.nil⟩ h) λb=>two b λf g=>some (Ex.normal,(⟨f.vars,.nil⟩:Env),g))=some b;rw[G8 c k.toList 0 [] [] ⟨[],[]⟩ ⟨s,.nil⟩ h m (λy=>by simp) (λm i=>by simp at i) (λm i=>by simp at i) i,dX];exact a
 |seq d o w x=>
  intro c e h b a;simp only[mR,aB]at c;have a:B0 (jB cx cf n mask dl d) (jB cx cf n mask dl o) e h=some b:=a;show B0 (j4 cx cf n mask d) (j4 cx cf n mask o) e h=some b;unfold B0 at*
  obtain⟨⟨l,t,u⟩,q,a⟩:=dJ.1 a;rw[w c.1 e h _ q,dX];simp only[kS]at*
  cases l with
  |normal=>exact x c.2 t u b a
  |exit r=>exact a
  |ret=>exact a
 |cond z d o w x=>
  intro c e h b a;simp only[mR,aB]at c;have a:Il cx mask z (jB cx cf n mask dl d) (jB cx cf n mask dl o) e h=some b:=a;show Il cx mask z (j4 cx cf n mask d) (j4 cx cf n mask o) e h=some b;unfold Il at*
  obtain⟨F,B,a⟩:=dJ.1 a;rw[B,dX];cases F<;>first|exact a|skip
  rename_i y;cases y with
  |true=>exact w c.1 e h b a
  |false=>exact x c.2 e h b a
 |block id d v=>
  intro c e h b a;simp only[mR]at c;have a:x8 id (jB cx cf n mask dl d) e h=some b:=a;show x8 id (j4 cx cf n mask d) e h=some b;unfold x8 at*
  obtain⟨m,q,a⟩:=dJ.1 a;rw[v c e h _ q,dX];exact a
 |loop d v=>
  intro c e h b a;simp only[mR]at c;have D:∀j e h b,ox (jB cx cf n mask dl d) j e h=some b->ox (j4 cx cf n mask d) j e h=some b:=by
   intro j;induction j with
   |zero=>intro e h b a;simp[ox]at a
   |succ j C=>
    intro e h b a;have a:(dU (jB cx cf n mask dl d e h) λb=>three b λl f g=> @Ex.rec (λ_=>Out) (ox (jB cx cf n mask dl d) j f g) (λr=>some (.exit r,f,g)) (some (.ret,f,g)) l)=some b:=a;show(dU (j4 cx cf n mask d e h) λb=>three b λl f g=> @Ex.rec (λ_=>Out) (ox (j4 cx cf n mask d) j f g) (λr=>some (.exit r,f,g)) (some (.ret,f,g)) l)=some b;obtain⟨⟨l,t,u⟩,q,a⟩:=dJ.1 a;rw[v c e h _ q,dX];simp only[kS]at*
    cases l with
    |normal=>exact C t u b a
    |exit r=>exact a
    |ret=>exact a
  exact D n e h b a
 |_=>intro _ e h b a;first|exact a|(simp[jB]at a)
def WR(cx:Ctx)(cf:iY)(mask:Nat)(f:af Oper)(d:List Oper)(i g:fW)(h:H)(c:fW->H->Prop):Prop:=
 ∃a b,kA cx cf mask f d ⟨i,g⟩ h=some (a,b)/\c a.vars b
def WX(c:aa (T×H))(b:T->H->Prop):Prop:=∃a h,c=some (a,h)/\b a h
@[simp] theorem zg (b:T) (h:H) (d:T->H->Prop):WX (some (b,h)) d=d b h:=by
 apply propext;constructor
 ·rintro⟨g,f,c,a⟩;simp only[ar,ay]at c;obtain⟨rfl,rfl⟩:=c;exact a
 ·exact λa=>⟨b,h,rfl,a⟩
def WD(mask:Nat)(g:aa Tmp)(f:T)(d c:fW)(a:fW->fW->Prop):Prop:=match g with
 |none=>a d c
 |some b=>if kh mask b=true then a (put d b f) c else a d (.cons b f c)
def CA(a b:Nat):(kh a b=true)=((a>>>b)&&&1=1):=by
 apply propext;show Nat.beq ((a>>>b)&&&1) 1=true↔_;exact⟨aD,λh=>by rw[h];rfl⟩
def GL(a:Tmp)(d:T)(f c:fW)(b:fW->fW->Prop):WD mask (some a) d f c b=if(mask>>>a)&&&1=1 then b (put f a d) c else b f (.cons a d c):=by
 unfold WD;simp only[CA]
def Re(i:af Oper)(b d:fW)(h:H)(f:fW->H->Prop):WR cx cf mask i [] b d h f=f b h:=by
 apply propext;constructor
 ·rintro⟨e,g,a,c⟩;have a:some ((⟨b,d⟩:Env),h)=some (e,g):=a;simp only[ar,ay]at a;obtain⟨rfl,rfl⟩:=a;exact c
 ·exact λc=>⟨⟨b,d⟩,h,rfl,c⟩
def GJ(l:af Oper)(k:Oper)(j:List Oper)(b a:fW)(h:H)(q:fW->H->Prop):
 WR cx cf mask l (k::j) b a h q=WX (ym cx cf mask l ⟨b,a⟩ h k) λc d=>WD mask k.dst c b a λb a=>WR cx cf mask l j b a d q:=by
 have u:∀c d,(∃f,Env.dst mask ⟨b,a⟩ k.dst c=some f/\WR cx cf mask l j f.vars f.tmps d q)↔WD mask k.dst c b a λb a=>WR cx cf mask l j b a d q:=by
  intro c d;cases x:k.dst with
  |none=>
   constructor
   ·rintro⟨f,g,p⟩;have g:some (⟨b,a⟩:Env)=some f:=g;simp only[ar]at g;subst g;exact p
   ·exact λp=>⟨_,rfl,p⟩
  |some m=>
   have hE:Env.dst mask ⟨b,a⟩ (some m) c=some (if kh mask m=true then⟨put b m c,a⟩else⟨b,.cons m c a⟩):=by
    show @Bool.rec (λ_=>aa Env) (some ⟨b,.cons m c a⟩) (dU (lV b m c) λj=>some ⟨j,a⟩) (kh mask m)=_;rw[pq];cases kh mask m<;>rfl
   rw[hE];unfold WD;simp only[ar,exists_eq_left'];split<;>rfl
 apply propext;have v:kA cx cf mask l (k::j) ⟨b,a⟩ h=dU (lH cx cf mask l ⟨b,a⟩ h k) λw=>two w λo d=>kA cx cf mask l j o d:=rfl;unfold WR;rw[v,qP];constructor
 ·rintro⟨o,d,i,s⟩;obtain⟨⟨c,r⟩,t,i⟩:=dJ.1 i;simp only[kG]at i;obtain⟨f,g,i⟩:=dJ.1 i;exact⟨c,r,t,(u c r).1 ⟨f,g,o,d,i,s⟩⟩
 ·rintro⟨c,r,t,p⟩;obtain⟨f,g,o,d,i,s⟩:=(u c r).2 p;refine⟨o,d,?_,s⟩;rw[t,dX,kG,g,dX];exact i
def abV(f:af Oper)(g:aa Tmp)(i:Op)(m:ab)(l:String)(j:af Edge)(d:List Oper)(b a:fW)(h:H)(c:fW->H->Prop):
 WR cx cf mask f (⟨g,i,m,l,j,none⟩::d) b a h c=WX (fin cf h (jp i cx mask ⟨b,a⟩ h)) λo k=>WD mask g o b a λb a=>WR cx cf mask f d b a k c:=GJ f _ d b a h c
def WG(c:aa Bool)(a b:Prop):Prop:=match c with|some true=>a|some false=>b|none=>False
def LS(a b:Prop):WG (some true) a b=a:=rfl
def II(b a:Prop):WG (some false) b a=a:=rfl
def Rf(c:af Oper)(i:aa Tmp)(k:Op)(r:ab)(q:String)(o:af Edge)(f:Nat)(d:Bool)(j:List Oper)(b a:fW)(h:H)(g:fW->H->Prop):
 WR cx cf mask c (⟨i,k,r,q,o,some (f,d)⟩::j) b a h g=WG (kw c mask ⟨b,a⟩ (some (f,d)))
  (WX (fin cf h (jp k cx mask ⟨b,a⟩ h)) λm l=>WD mask i m b a λb a=>WR cx cf mask c j b a l g)
  (WD mask i .undef b a λb a=>WR cx cf mask c j b a h g):=by
 rw[GJ];show WX (dU (kw c mask ⟨b,a⟩ (some (f,d))) λt=> @Bool.rec (λ_=>aa (T×H)) (some (.undef,h)) (fin cf h (jp k cx mask ⟨b,a⟩ h)) t) _=_;cases kw c mask ⟨b,a⟩ (some (f,d))with
 |none=>apply propext;constructor<;>(first|(rintro⟨m,l,p,_⟩;simp[dU]at p)|exact False.elim)
 |some s=>cases s<;>simp[LS,II]
def KI(a:aa T)(b:Bool):aa Bool:=dU a λa=>match a with| .bool c=>some (c==b)|_=>some false
@[simp] theorem BN (b a:Bool):KI (some (.bool b)) a=some (b==a):=rfl
@[simp] theorem TW (a:Bool):KI (some .undef) a=some false:=rfl
@[simp] theorem BO (d:List Oper) (e:Env) (c:Nat) (f:Bool):kw d.toArray mask e (some (c,f))=KI (dU (dU (d[c]?) λb=>b.dst) λa=>e.get mask a) f:=by
 show(dU (dU (dU (mm d.toArray.toList c) λb=>b.dst) λa=>e.get mask a) λg=>_)=_;rw[kE];unfold KI;simp only;cases (dU (dU (d[c]?) λb=>b.dst) λa=>e.get mask a)with
 |none=>rfl
 |some g=>cases g<;>first|rfl|(rename_i i;cases i<;>cases f<;>rfl)
@[simp] theorem Bx (c b:fW) (a:Nat):Env.get mask ⟨c,b⟩ a=if(mask>>>a)&&&1=1 then dL c a else dL b a:=by
 show @Bool.rec (λ_=>aa T) (dL b a) (dL c a) (kh mask a)=_;simp only[<-CA];cases kh mask a<;>rfl
def KA(cx:Ctx)(cf:iY)(mask:Nat)(k:af Oper)(d:List (Nat×Nat))(i:List Oper)(g:Nat)(j:List (Nat×Nat))(f:List (Nat×H×H))(m l:fW)(h:H)(c:fW->H->Prop):Prop:=
 ∃a b,w8 cx cf mask k d i g j f ⟨m,l⟩ h=some (a,b)/\c a.vars b
def LR(m:af Oper)(g:List (Nat×Nat))(k:Nat)(l:List (Nat×Nat))(i:List (Nat×H×H))(b d:fW)(h:H)(f:fW->H->Prop):KA cx cf mask m g [] k l i b d h f=f b h:=by
 apply propext;constructor
 ·rintro⟨e,j,a,c⟩;have a:some ((⟨b,d⟩:Env),h)=some (e,j):=a;simp only[ar,ay]at a;obtain⟨rfl,rfl⟩:=a;exact c
 ·exact λc=>⟨⟨b,d⟩,h,rfl,c⟩
def DK(cx:Ctx)(mask:Nat)(d:List (Nat×Nat))(a:Nat)(f:List (Nat×Nat))(b:List (Nat×H×H))(i:Op)(e:Env)(h j:H)(g:List (Nat×Nat)->List (Nat×H×H)->Prop):Prop:=
 if iC i=true then(vZ d a h j f/\(∀l k m c,i= .store l k m->dU (fP cx mask e k) dS=some c->mJ d a c b))/\g f (if lL d a=true then(a,h,j)::b else b)
 else match gG cx mask e h i with
  |none=>g f b
  |some c=>mJ d a c b/\g (if lL d a=true then(a,c)::f else f) b
def IH(u:af Oper)(y:List (Nat×Nat))(j:Oper)(x:List Oper)(z:Nat)(q:List (Nat×Nat))(p:List (Nat×H×H))(b a:fW)(h:H)(A:fW->H->Prop):
 KA cx cf mask u y (j::x) z q p b a h A=WG (kw u mask ⟨b,a⟩ j.guard)
  (WX (fin cf h (jp j.op cx mask ⟨b,a⟩ h)) λk c=>DK cx mask y z q p j.op ⟨b,a⟩ h c λq p=>WD mask j.dst k b a λb a=>KA cx cf mask u y x (z+1) q p b a c A)
  (WD mask j.dst .undef b a λb a=>KA cx cf mask u y x (z+1) q p b a h A):=by
 have t:∀k c (q:List (Nat×Nat)) (p:List (Nat×H×H)),(∃i,Env.dst mask ⟨b,a⟩ j.dst k=some i/\KA cx cf mask u y x (z+1) q p i.vars i.tmps c A)↔WD mask j.dst k b a λb a=>KA cx cf mask u y x (z+1) q p b a c A:=by
  intro k c q p;cases J:j.dst with
  |none=>
   constructor
   ·rintro⟨i,f,r⟩;have f:some (⟨b,a⟩:Env)=some i:=f;simp only[ar]at f;subst f;exact r
   ·exact λr=>⟨_,rfl,r⟩
  |some v=>
   have hE:Env.dst mask ⟨b,a⟩ (some v) k=some (if kh mask v=true then⟨put b v k,a⟩else⟨b,.cons v k a⟩):=by
    show @Bool.rec (λ_=>aa Env) (some ⟨b,.cons v k a⟩) (dU (lV b v k) λx=>some ⟨x,a⟩) (kh mask v)=_;rw[pq];cases kh mask v<;>rfl
   rw[hE];unfold WD;simp only[ar,exists_eq_left'];split<;>rfl
 apply propext;constructor
 ·rintro⟨l,c,m,o⟩;unfold w8 at m;rw[qP]at m;obtain⟨⟨k,D⟩,s,E⟩:=dJ.1 m;simp only[kG]at E;obtain⟨i,f,F⟩:=dJ.1 E;obtain⟨C,r,g⟩:=dJ.1 F;clear m E F;unfold ym at s;rw[r,dX]at s;rw[r];cases C with
  |false=>
   replace s:some (T.undef,h)=some (k,D):=s;simp only[ar,ay]at s;obtain⟨rfl,rfl⟩:=s;simp only[cr,br]at g;exact(t _ _ q p).1 ⟨i,f,l,c,g,o⟩
  |true=>
   simp only[bh]at g;refine⟨k,D,s,?_⟩;unfold DK;split
   ·rename_i hE;rw[aq hE]at g;split at g
    ·rename_i w;exact⟨w,(t _ _ _ _).1 ⟨i,f,l,c,g,o⟩⟩
    ·simp at g
   ·rename_i hE;rw[ao hE]at g;cases B:gG cx mask ⟨b,a⟩ h j.op with
    |none=>rw[B]at g;exact(t _ _ _ _).1 ⟨i,f,l,c,g,o⟩
    |some I=>
     rw[B]at g;simp only at g;split at g
     ·rename_i w;exact⟨w,(t _ _ _ _).1 ⟨i,f,l,c,g,o⟩⟩
     ·simp at g
 ·intro d;unfold KA w8;rw[qP];cases r:kw u mask ⟨b,a⟩ j.guard with
  |none=>rw[r]at d;exact d.elim
  |some C=>
   rw[r]at d;have G:ym cx cf mask u ⟨b,a⟩ h j= @Bool.rec (λ_=>aa (T×H)) (some (.undef,h)) (fin cf h (jp j.op cx mask ⟨b,a⟩ h)) C:=by
    unfold ym;rw[r,dX]
   cases C with
   |false=>
    obtain⟨i,f,l,c,m,o⟩:=(t _ _ q p).2 d;refine⟨l,c,?_,o⟩;rw[G];simp only[dX,kG,f];exact m
   |true=>
    obtain⟨k,D,s,d⟩:=d;rw[G];simp only[s,dX,kG,bh];unfold DK at d;split at d
    ·rename_i hE;obtain⟨w,d⟩:=d;obtain⟨i,f,l,c,m,o⟩:=(t _ _ _ _).2 d;refine⟨l,c,?_,o⟩;rw[f,dX,aq hE,aq w];exact m
    ·rename_i hE;cases B:gG cx mask ⟨b,a⟩ h j.op with
     |none=>
      rw[B]at d;obtain⟨i,f,l,c,m,o⟩:=(t _ _ _ _).2 d;refine⟨l,c,?_,o⟩;rw[f,dX,ao hE];exact m
     |some I=>
      rw[B]at d;obtain⟨w,d⟩:=d;obtain⟨i,f,l,c,m,o⟩:=(t _ _ _ _).2 d;refine⟨l,c,?_,o⟩;rw[f,dX,ao hE];simp only;rw[aq w];exact m
def Xx(l:af Oper)(f:List (Nat×Nat))(m:aa Tmp)(k:Op)(r:ab)(q:String)(p:af Edge)(j:List Oper)(g:Nat)(d:List (Nat×Nat))(c:List (Nat×H×H))(b a:fW)(h:H)(i:fW->H->Prop):
 KA cx cf mask l f (⟨m,k,r,q,p,none⟩::j) g d c b a h i=
  WX (fin cf h (jp k cx mask ⟨b,a⟩ h)) λs o=>DK cx mask f g d c k ⟨b,a⟩ h o λd c=>WD mask m s b a λb a=>KA cx cf mask l f j (g+1) d c b a o i:=IH l f _ j g d c b a h i
def RK(cx:Ctx)(cf:iY)(mask:Nat)(d:af Oper)(c:List Oper)(a f:fW)(h:H)(b:iM):Prop:=WR cx cf mask d c a f h λa h=>b.n ⟨a,.nil⟩ h
def XK(k:aa (T×H))(cx:Ctx)(cf:iY)(mask:Nat)(i:af Oper)(d:aa Tmp)(g:List Oper)(b a:fW)(c:iM):Prop:=WX k λj f=>WD mask d j b a λb a=>RK cx cf mask i g b a f c
def GK(j:aa Bool)(cx:Ctx)(cf:iY)(mask:Nat)(g:af Oper)(d:aa Tmp)(i:Op)(f:List Oper)(b a:fW)(h:H)(c:iM):Prop:=
 WG j (XK (fin cf h (jp i cx mask ⟨b,a⟩ h)) cx cf mask g d f b a c) (WD mask d .undef b a λb a=>RK cx cf mask g f b a h c)
@[simp] theorem aeW (c:af Oper) (a d:fW) (h:H) (b:iM):RK cx cf mask c [] a d h b=b.n ⟨a,.nil⟩ h:=Re c a d h _
@[simp] theorem afw (g:af Oper) (c:aa Tmp) (f:Op) (l:ab) (k:String) (j:af Edge) (d:List Oper) (b a:fW) (h:H) (i:iM):
 RK cx cf mask g (⟨c,f,l,k,j,none⟩::d) b a h i=XK (fin cf h (jp f cx mask ⟨b,a⟩ h)) cx cf mask g c d b a i:=abV g c f l k j d b a h _
@[simp] theorem fg (a:af Oper) (f:aa Tmp) (j:Op) (o:ab) (m:String) (l:af Edge) (g:Nat) (d:Bool) (i:List Oper) (c b:fW) (h:H) (k:iM):
 RK cx cf mask a (⟨f,j,o,m,l,some (g,d)⟩::i) c b h k=GK (kw a mask ⟨c,b⟩ (some (g,d))) cx cf mask a f j i c b h k:=Rf a f j o m l g d i c b h _
@[simp] theorem adg (g:T) (h:H) (c:af Oper) (b:List Oper) (f d:fW) (a:iM):XK (some (g,h)) cx cf mask c none b f d a=RK cx cf mask c b f d h a:=by
 unfold XK;rw[zg];rfl
@[simp] theorem adf (g:T) (h:H) (d:af Oper) (a:Tmp) (c:List Oper) (i f:fW) (b:iM):XK (some (g,h)) cx cf mask d (some a) c i f b=
 if(mask>>>a)&&&1=1 then RK cx cf mask d c (put i a g) f h b else RK cx cf mask d c i (.cons a g f) h b:=by
 unfold XK;rw[zg,GL]
@[simp] theorem adr (i:af Oper) (d:aa Tmp) (g:Op) (f:List Oper) (b a:fW) (h:H) (c:iM):GK (some true) cx cf mask i d g f b a h c=XK (fin cf h (jp g cx mask ⟨b,a⟩ h)) cx cf mask i d f b a c:=id rfl
@[simp] theorem ab1 (g:af Oper) (c:Tmp) (i:Op) (f:List Oper) (b a:fW) (h:H) (d:iM):GK (some false) cx cf mask g (some c) i f b a h d=if(mask>>>c)&&&1=1 then RK cx cf mask g f (put b c .undef) a h d else RK cx cf mask g f b (.cons c .undef a) h d:=by
 show WD mask (some c) .undef b a (λb a=>RK cx cf mask g f b a h d)=_;rw[GL]
def NV(cx:Ctx)(mask:Nat)(b:List (Nat×Nat))(d:Nat)(c:List (Nat×H×H))(f:Op)(e:Env):Prop:=match f with
 | .store _ g _=>(match dU (fP cx mask e g) dS with|some a=>mJ b d a c|none=>True)
 |_=>True
def U0(b:List (Nat×Nat))(d:Nat)(c:List (Nat×H×H))(f:aa Nat):Prop:=match f with|some a=>mJ b d a c|none=>True
@[simp] theorem Xq (b:List (Nat×Nat)) (d:Nat) (c:List (Nat×H×H)) (a:Nat):U0 b d c (some a)=mJ b d a c:=id rfl
@[simp] theorem BU (a:List (Nat×Nat)) (c:Nat) (b:List (Nat×H×H)) (f:ab) (d g:ah) (e:Env):NV cx mask a c b (.store f d g) e=U0 a c b (dU (fP cx mask e d) dS):=id rfl
@[simp] theorem XQ (b:List (Nat×Nat)) (d:Nat) (c:List (Nat×H×H)) (a:Call) (e:Env):NV cx mask b d c (.call a) e=True:=id rfl
def TT(cx:Ctx)(cf:iY)(mask:Nat)(j:af Oper)(c:List (Nat×Nat))(g:List Oper)(f:Nat)(i:List (Nat×Nat))(d:List (Nat×H×H))(a k:fW)(h:H)(b:iM):Prop:=KA cx cf mask j c g f i d a k h λa h=>b.n ⟨a,.nil⟩ h
def Rq(q:aa (T×H))(cx:Ctx)(cf:iY)(mask:Nat)(o:af Oper)(f:List (Nat×Nat))(k:aa Tmp)(m:Op)(l:List Oper)(i:Nat)(d:List (Nat×Nat))(c:List (Nat×H×H))(b a:fW)(h:H)(j:iM):Prop:=
 WX q λp g=>DK cx mask f i d c m ⟨b,a⟩ h g λd c=>WD mask k p b a λb a=>TT cx cf mask o f l (i+1) d c b a g j
def RB(m:T)(cx:Ctx)(cf:iY)(mask:Nat)(l:af Oper)(d:List (Nat×Nat))(f:aa Tmp)(j:List Oper)(i:Nat)(k:List (Nat×Nat))(g:List (Nat×H×H))(b a:fW)(h:H)(c:iM):Prop:=WD mask f m b a λb a=>TT cx cf mask l d j i k g b a h c
def DLK(p:aa Nat)(m:T)(cx:Ctx)(cf:iY)(mask:Nat)(k:af Oper)(b:List (Nat×Nat))(i:aa Tmp)(j:List Oper)(a:Nat)(d:List (Nat×Nat))(c:List (Nat×H×H))(o l:fW)(h:H)(f:iM):Prop:=match p with
 |none=>RB m cx cf mask k b i j (a+1) d c o l h f
 |some g=>mJ b a g c/\RB m cx cf mask k b i j (a+1) (if lL b a=true then(a,g)::d else d) c o l h f
@[simp] theorem ab8 (l:T) (j:af Oper) (b:List (Nat×Nat)) (c:aa Tmp) (g:List Oper) (f:Nat) (i:List (Nat×Nat)) (d:List (Nat×H×H)) (m k:fW) (h:H) (a:iM):DLK none l cx cf mask j b c g f i d m k h a=RB l cx cf mask j b c g (f+1) i d m k h a:=id rfl
@[simp] theorem Rr (c:Nat) (m:T) (k:af Oper) (b:List (Nat×Nat)) (i:aa Tmp) (j:List Oper) (a:Nat) (f:List (Nat×Nat)) (d:List (Nat×H×H)) (o l:fW) (h:H) (g:iM):DLK (some c) m cx cf mask k b i j a f d o l h g=(mJ b a c d/\RB m cx cf mask k b i j (a+1) (if lL b a=true then(a,c)::f else f) d o l h g):=id rfl
@[simp] theorem ab7 (l:T) (i:af Oper) (b:List (Nat×Nat)) (f:List Oper) (d:Nat) (g:List (Nat×Nat)) (c:List (Nat×H×H)) (k j:fW) (h:H) (a:iM):RB l cx cf mask i b none f d g c k j h a=TT cx cf mask i b f d g c k j h a:=id rfl
@[simp] theorem ab6 (l:T) (j:af Oper) (c:List (Nat×Nat)) (a:Tmp) (g:List Oper) (f:Nat) (i:List (Nat×Nat)) (d:List (Nat×H×H)) (m k:fW) (h:H) (b:iM):RB l cx cf mask j c (some a) g f i d m k h b=
 if(mask>>>a)&&&1=1 then TT cx cf mask j c g f i d (put m a l) k h b else TT cx cf mask j c g f i d m (.cons a l k) h b:=by unfold RB;rw[GL]
@[simp] theorem ady (i:af Oper) (c:List (Nat×Nat)) (f:Nat) (g:List (Nat×Nat)) (d:List (Nat×H×H)) (a j:fW) (h:H) (b:iM):TT cx cf mask i c [] f g d a j h b=b.n ⟨a,.nil⟩ h:=LR i c f g d a j h _
@[simp] theorem ae1 (l:af Oper) (d:List (Nat×Nat)) (f:aa Tmp) (a:Op) (q:ab) (p:String) (o:af Edge) (j:List Oper) (i:Nat) (k:List (Nat×Nat)) (g:List (Nat×H×H)) (c b:fW) (h:H) (m:iM):
 TT cx cf mask l d (⟨f,a,q,p,o,none⟩::j) i k g c b h m=Rq (fin cf h (jp a cx mask ⟨c,b⟩ h)) cx cf mask l d f a j i k g c b h m:=Xx l d f a q p o j i k g c b h _
def DEK(q:Bool)(p:T)(d:H)(cx:Ctx)(cf:iY)(mask:Nat)(o:af Oper)(b:List (Nat×Nat))(k:aa Tmp)(m:Op)(l:List Oper)(a:Nat)(i:List (Nat×Nat))(c:List (Nat×H×H))(g f:fW)(h:H)(j:iM):Prop:=match q with
 |true=>(vZ b a h d i/\NV cx mask b a c m ⟨g,f⟩)/\RB p cx cf mask o b k l (a+1) i (if lL b a=true then(a,h,d)::c else c) g f d j
 |false=>DLK (gG cx mask ⟨g,f⟩ h m) p cx cf mask o b k l a i c g f d j
@[simp] theorem Rs (p:T) (d:H) (o:af Oper) (b:List (Nat×Nat)) (k:aa Tmp) (m:Op) (l:List Oper) (a:Nat) (f:List (Nat×Nat)) (c:List (Nat×H×H)) (i g:fW) (h:H) (j:iM):DEK true p d cx cf mask o b k m l a f c i g h j=((vZ b a h d f/\NV cx mask b a c m ⟨i,g⟩)/\RB p cx cf mask o b k l (a+1) f (if lL b a=true then(a,h,d)::c else c) i g d j):=id rfl
@[simp] theorem NA (p:T) (i:H) (o:af Oper) (d:List (Nat×Nat)) (f:aa Tmp) (m:Op) (k:List Oper) (j:Nat) (l:List (Nat×Nat)) (g:List (Nat×H×H)) (b a:fW) (h:H) (c:iM):DEK false p i cx cf mask o d f m k j l g b a h c=DLK (gG cx mask ⟨b,a⟩ h m) p cx cf mask o d f k j l g b a i c:=id rfl
@[simp] theorem ab5 (b:T) (r:H) (u:af Oper) (i:List (Nat×Nat)) (q:aa Tmp) (a:Op) (s:List Oper) (l:Nat) (t:List (Nat×Nat)) (j:List (Nat×H×H)) (d c:fW) (h:H) (p:iM):
 Rq (some (b,r)) cx cf mask u i q a s l t j d c h p=DEK (iC a) b r cx cf mask u i q a s l t j d c h p:=by
 unfold Rq;rw[zg];unfold DK;cases hE:iC a with
 |true=>
  rw[aq rfl,Rs];have:(∀m f b g,a= .store m f b->dU (fP cx mask ⟨d,c⟩ f) dS=some g->mJ i l g j)↔NV cx mask i l j a ⟨d,c⟩:=by
   constructor
   ·intro k;cases a<;>first|exact trivial|skip
    rename_i m f b;rw[BU];cases o:dU (fP cx mask ⟨d,c⟩ f) dS with
    |none=>exact trivial
    |some g=>exact k m f b g rfl o
   ·intro k m f b g v o;subst v;rw[BU,o]at k;exact k
  rw[this];rfl
 |false=>
  rw[ao dA,NA];cases gG cx mask ⟨d,c⟩ h a<;>rfl
section
variable (e:Env)(h:H)
@[simp] theorem UM (a:ab) (c b:ah):iC (.store a c b)=true:=id rfl
@[simp] theorem UN (b:ah) (a:af ah) (c:af ab):iC (.call ⟨.value b,a,c⟩)=true:=id rfl
@[simp] theorem UO (a:Builtin) (b:af ah) (c:af ab):iC (.call ⟨.builtin a,b,c⟩)=(match a with| .len| .min| .max=>false|_=>true):=id rfl
@[simp] theorem Wm (a:ah):iC (.move a)=false:=id rfl
@[simp] theorem SB (a:ah):iC (.assign a)=false:=id rfl
@[simp] theorem Wn (a:ab) (b:ah):iC (.load a b)=false:=id rfl
@[simp] theorem aaZ (a:ah):iC (.nilCheck a)=false:=id rfl
@[simp] theorem aa3 (b:ab) (c:ah) (a:Nat):iC (.fieldAddr b c a)=false:=id rfl
@[simp] theorem aa2 (a:ab) (b c:ah):iC (.indexAddr a b c)=false:=id rfl
@[simp] theorem Yf (a:BinOp) (b c:ab) (d f:ah):iC (.binOp a b d f c)=false:=id rfl
@[simp] theorem UQ (a:ab):iC (.alloc a)=false:=id rfl
@[simp] theorem UP (b:ab) (a:af (Nat×ah)):iC (.build b a)=false:=id rfl
@[simp] theorem aa6 (b:ab) (n:Nat) (a:af (Nat×ah)):iC (.buildSlice b n a)=false:=id rfl
@[simp] theorem aa0 (a:ab) (b c:ah):iC (.makeSlice a b c)=false:=id rfl
@[simp] theorem aaY (d:ab) (f:ah) (a b c:aa ah):iC (.slice d f a b c)=false:=id rfl
@[simp] theorem aa4 (b:ah) (a:Nat):iC (.extract b a)=false:=id rfl
@[simp] theorem aa5 (a b:ab) (c:ah):iC (.convert a b c)=false:=id rfl
@[simp] theorem aa1 (c:Fn) (a b:af ah):iC (.makeFunc c a b)=false:=id rfl
@[simp] theorem acw (b:ab) (a:ah):gG cx mask e h (.load b a)=dU (fP cx mask e a) dS:=id rfl
@[simp] theorem afo (b:ab) (a c:ah):gG cx mask e h (.indexAddr b a c)=dU (fP cx mask e a) dS:=id rfl
@[simp] theorem afk (f:ab) (a:ah) (b c d:aa ah):gG cx mask e h (.slice f a b c d)=dU (fP cx mask e a) dS:=id rfl
@[simp] theorem afr (b c:ab) (a:ah):gG cx mask e h (.convert b c a)=dU (fP cx mask e a) dS:=id rfl
@[simp] theorem aaV (a:ab):gG cx mask e h (.alloc a)=some h.size:=id rfl
@[simp] theorem afs (b:ab) (n:Nat) (a:af (Nat×ah)):gG cx mask e h (.buildSlice b n a)=some h.size:=id rfl
@[simp] theorem afm (a:ab) (b c:ah):gG cx mask e h (.makeSlice a b c)=some h.size:=id rfl
@[simp] theorem acv (a:ah):gG cx mask e h (.move a)=none:=id rfl
@[simp] theorem Ye (a:ah):gG cx mask e h (.assign a)=none:=id rfl
@[simp] theorem afl (a:ah):gG cx mask e h (.nilCheck a)=none:=id rfl
@[simp] theorem afp (b:ab) (c:ah) (a:Nat):gG cx mask e h (.fieldAddr b c a)=none:=id rfl
@[simp] theorem aem (a:BinOp) (b c:ab) (d f:ah):gG cx mask e h (.binOp a b d f c)=none:=id rfl
@[simp] theorem aaU (b:ab) (a:af (Nat×ah)):gG cx mask e h (.build b a)=none:=id rfl
@[simp] theorem afq (b:ah) (a:Nat):gG cx mask e h (.extract b a)=none:=id rfl
@[simp] theorem acx (a:Call):gG cx mask e h (.call a)=none:=id rfl
@[simp] theorem afn (c:Fn) (a b:af ah):gG cx mask e h (.makeFunc c a b)=none:=id rfl
@[simp] theorem Yx (a b c d:Nat):dS (.ptr a b c d)=some a:=id rfl
@[simp] theorem wO (a b f d:Nat) (c:Bool):dS (.arr a b f d c)=some a:=id rfl
@[simp] theorem Xn (a:List T) (b:Bool):dS (.dM a b)=none:=id rfl
@[simp] theorem Xo (a:List T):dS (.jy a)=none:=id rfl
@[simp] theorem Yy (a:ak) (n:Int):dS (.int a n)=none:=id rfl
end
variable {dl:DL}
def QK(cx:Ctx)(cf:iY)(mask:Nat)(a:List Oper)(f:aa (List (Nat×Nat)))(c:fW)(h:H)(b:iM):Prop:=match f with
 |none=>RK cx cf mask a.toArray a c .nil h b
 |some d=>TT cx cf mask a.toArray d a 0 [] [] c .nil h b
@[simp] theorem adp (a:List Oper) (c:fW) (h:H) (b:iM):QK cx cf mask a none c h b=RK cx cf mask a.toArray a c .nil h b:=id rfl
@[simp] theorem adn (a:List Oper) (c:List (Nat×Nat)) (d:fW) (h:H) (b:iM):QK cx cf mask a (some c) d h b=TT cx cf mask a.toArray c a 0 [] [] d .nil h b:=id rfl
def U5(f:aa (Env×H))(g:iM):W (dU f λj=>two j λb a=>some (.normal,(⟨b.vars,.nil⟩:Env),a)) g=∃b a,f=some (b,a)/\g.n ⟨b.vars,.nil⟩ a:=by
 cases f with
 |none=>apply propext;constructor<;>(first|(rintro⟨k,a,l,c,_⟩;simp[dU]at c)|(rintro⟨k,a,c,_⟩;simp at c))
 |some i=>
  obtain⟨b,a⟩:=i;simp only[dX,kG,Do,ar,ay];apply propext;constructor
  ·exact λd=>⟨b,a,⟨rfl,rfl⟩,d⟩
  ·rintro⟨_,_,⟨rfl,rfl⟩,d⟩;exact d
@[simp] theorem aeU (id:Nat) (b:List Oper) (f:Bool) (c d:fW) (h:H) (a:iM):W (jB cx cf n mask dl (.region id b.toArray f) ⟨c,d⟩ h) a=QK cx cf mask b (dl.lookup id) c h a:=by
 show W (N9 cx cf mask dl id b.toArray ⟨c,d⟩ h) a=_;unfold N9;cases dl.lookup id with
 |none=>exact U5 _ a
 |some g=>exact U5 _ a
@[simp] theorem aeS (b c:Code) (e:Env) (h:H) (a:iM):W (jB cx cf n mask dl (.seq b c) e h) a=W (jB cx cf n mask dl b e h) (FK (jB cx cf n mask dl c) a):=abQ _ _ e h a
@[simp] theorem abS (id:Nat) (b:Code) (e:Env) (h:H) (a:iM):W (jB cx cf n mask dl (.block id b) e h) a=W (jB cx cf n mask dl b e h) (rV id a):=TG id _ e h a
def CK(d:aa T)(cx:Ctx)(cf:iY)(n mask:Nat)(dl:DL)(b c:Code)(e:Env)(h:H)(a:iM):Prop:=Qq d (W (jB cx cf n mask dl b e h) a) (W (jB cx cf n mask dl c e h) a)
@[simp] theorem fG (d:Bool) (b c:Code) (e:Env) (h:H) (a:iM):CK (some (.bool d)) cx cf n mask dl b c e h a=if d=true then W (jB cx cf n mask dl b e h) a else W (jB cx cf n mask dl c e h) a:=id rfl
@[simp] theorem adk (a:Nat) (f g:Code) (c b:fW) (h:H) (d:iM):W (jB cx cf n mask dl (.cond (.tmp a) f g) ⟨c,b⟩ h) d=CK (if(mask>>>a)&&&1=1 then dL c a else dL b a) cx cf n mask dl f g ⟨c,b⟩ h d:=by
 rw[<-Bx];apply propext;unfold CK;show W (dU (Env.get mask ⟨c,b⟩ a) λi=>_) d↔_;cases Env.get mask ⟨c,b⟩ a with
 |none=>simp[dU,Qq,Q7]
 |some i=>
  simp only[dX];cases i<;>simp only[Qq,Q7];rename_i j;cases j<;>simp
@[simp] theorem adi (b:Code) (e:Env) (h:H) (a:iM):W (jB cx cf n mask dl (.loop b) e h) a=W (ox (jB cx cf n mask dl b) n e h) a:=rfl
@[simp] theorem adh (e:Env) (h:H) (a:iM):W (jB cx cf n mask dl .skip e h) a=a.n e h:=Do e h a
@[simp] theorem adj (id:Nat) (e:Env) (h:H) (a:iM):W (jB cx cf n mask dl (.exit id) e h) a=a.x id e h:=Dp id e h a
@[simp] theorem aeT (e:Env) (h:H) (a:iM):W (jB cx cf n mask dl .ret e h) a=a.r e h:=U4 e h a
end
end
noncomputable section
noncomputable section
variable {cx:Ctx}{cf:iY}{mask:Nat}{e:Env}{h:H}
attribute [simp] PS lK jH H.kI
@[simp] theorem aaj (c b:fW) (a:Nat):fP cx mask ⟨c,b⟩ (.tmp a)=if(mask>>>a)&&&1=1 then dL c a else dL b a:=Bx c b a
@[simp] theorem aak (a:ak) (b:Int):fP cx mask e (.const (.int a b))=some (.int a b):=rfl
@[simp] theorem X0 (a:Bool):fP cx mask e (.const (.bool a))=some (.bool a):=rfl
@[simp] theorem XZ:fP cx mask e (.const (.slice none 0 0))=some (.dM [] false):=rfl
@[simp] theorem ON (b:ByteArray):fP cx mask e (.const (.string b))=some (.str (b.data.toList.map UInt8.toNat)):=by
 show(dU (Az b.data.toList) λa=>some (T.str a))=_;have:∀a:List UInt8,Az a=some (a.map UInt8.toNat):=by
  intro a;induction a with
  |nil=>rfl
  |cons f a c=>
   show(dU (gY f.toNat) λg=>dU (Az a) λd=>some (g::d))=_;rw[c];simp
 rw[this];rfl
@[simp] theorem Mq (a:aj):fP cx mask e (.func a)=some (.func a []):=rfl
@[simp] theorem Hl (a:List ah):p9 cx mask e a=fN (fP cx mask e) a:=rfl
def kj(a:Int):aa Nat:=if 0<=a then some a.toNat else none
@[simp] theorem XO (b:ak) (a:Int):pV (.int b a)=kj a:=by
 unfold kj;cases a with
 |ofNat c=>rw[aq dA];rfl
 |negSucc c=>rw[ao dz];rfl
@[simp] theorem I1 (a:Nat):kj (a:Int)=some a:=by unfold kj;rw[aq dz];rfl
@[simp] theorem Vo (a:Nat):kj (no_index (OfNat.ofNat a):Int)=some a:=I1 a
def eK{a:Int}(h:0<=a):kj a=some a.toNat:=by unfold kj;rw[aq h]
@[simp] theorem acq (a:ah):jp (.move a) cx mask e h=val h (fP cx mask e a):=rfl
@[simp] theorem X4 (a:ah):jp (.assign a) cx mask e h=val h (fP cx mask e a):=rfl
def mZ(a:aa T)(b c:aa lN):aa lN:=dU a λa=>match a with| .bool d=>if d=true then b else c|_=>none
@[simp] theorem ei (c:Bool) (a b:aa lN):mZ (some (.bool c)) a b=if c=true then a else b:=rfl
@[simp] theorem Sq (a b c:ah):jp (.pick a b c) cx mask e h=mZ (fP cx mask e a) (val h (fP cx mask e b)) (val h (fP cx mask e c)):=by
 show(dU (fP cx mask e a) λa=>_)=_;unfold mZ;cases fP cx mask e a with
 |none=>rfl
 |some f=>cases f<;>first|rfl|(rename_i d;cases d<;>rfl)
@[simp] theorem Wo (a:Ty):wJ cx a=(match a.u with
 | .array _ b=>Option.casesOn (cx.ty b) false λd=>(match d.u with| .int c=>Dx c .u8|_=>false)
 |_=>false):=rfl
@[simp] theorem aaI (b:ab):jp (.alloc b) cx mask e h=dU (cx.ty b) λa=>if wJ cx a=true then some (.val (.ptr h.size 0 0 0) (h.cons (lJ 1 true a.zero)))else some (.val (.ptr h.size 0 0 0) (h.cons (lJ a.size true [a.kf]))):=by
 show(dU (cx.ty b) λa=>_)=_;cases cx.ty b with
 |none=>rfl
 |some a=>
  simp only[dX];cases wJ cx a<;>simp
@[simp] theorem EI (b:Nat) (c:Bool) (a:List T):lJ b c a=⟨b,0,0,c,false,a⟩:=rfl
@[simp] theorem aee (d:ab) (b:ah):jp (.box d b) cx mask e h=dU (fP cx mask e b) λa=>gD a.il (some (.val (.ptr h.size 0 0 0) (h.cons ⟨a.cells.length,0,0,true,false,[a]⟩))):=by
 show(dU (fP cx mask e b) λa=>gD a.il (jA (h.new (λc=> .ptr c 0 0 0) (lJ (kW a.cells) true [a]))))=_;simp
def xK(cx:Ctx)(mask:Nat)(e:Env):List (Nat×ah)->aa (List (Nat×T))
 | []=>some []
 |(b,d)::c=>dU (fP cx mask e d) λa=>gD a.il (dU (xK cx mask e c) λf=>some ((b,a)::f))
@[simp] theorem VP:xK cx mask e []=some []:=rfl
@[simp] theorem Hk (a:Nat) (c:ah) (b:List (Nat×ah)):xK cx mask e ((a,c)::b)=dU (fP cx mask e c) λd=>gD d.il (dU (xK cx mask e b) λf=>some ((a,d)::f)):=rfl
def Cg(a:List (Nat×ah)):partsOf cx mask e a=xK cx mask e a:=by
 induction a with
 |nil=>rfl
 |cons i a g=>
  obtain⟨f,c⟩:=i;show(dU (dU (fP cx mask e c) λb=>gD b.il (some (f,b))) λk=>dU (partsOf cx mask e a) λj=>some (k::j))=_;rw[g,Hk];cases fP cx mask e c with
  |none=>rfl
  |some b=>cases d:b.il<;>simp[d]
def CW(cx:Ctx)(c:List (Nat×ab)):List (Nat×T)->List T->aa (List T)
 | [],a=>some a
 |(g,d)::i,a=>dU (c[g]?) λb=>dU (cx.ty b.2) λj=>gD (decide (d.cells.length=j.size)) (dU (kT a b.1 d.cells) λf=>CW cx c i f)
@[simp] theorem Yk (b:List (Nat×ab)) (a:List T):CW cx b [] a=some a:=rfl
@[simp] theorem J8 (a:List (Nat×ab)) (f:Nat) (b:T) (g:List (Nat×T)) (c:List T):CW cx a ((f,b)::g) c=dU (a[f]?) λd=>dU (cx.ty d.2) λj=>gD (decide (b.cells.length=j.size)) (dU (kT c d.1 b.cells) λi=>CW cx a g i):=rfl
def Gf(g:List (Nat×ab)):∀(c:List (Nat×T)) (f:List T),mG (λb=>dU (mm g b) λa=>dU (cx.ty a.2) λd=>some (a.1,d.size)) c f=CW cx g c f:=by
 intro c;induction c with
 |nil=>intro f;rfl
 |cons m c l=>
  intro f;obtain⟨b,j⟩:=m;show(dU (dU (mm g b) λa=>dU (cx.ty a.2) λd=>some (a.1,d.size)) λi=>gD (Nat.beq (kW j.cells) i.2) (dU (kT f i.1 j.cells) λk=>mG (λb=>dU (mm g b) λa=>dU (cx.ty a.2) λd=>some (a.1,d.size)) c k))=_;rw[J8,kE];cases g[b]? with
  |none=>rfl
  |some a=>
   simp only[dX];cases cx.ty a.2 with
   |none=>rfl
   |some d=>simp only[dX,jE,uV,l]
def CZ(b:Nat):List (Nat×T)->List T->aa (List T)
 | [],a=>some a
 |(f,c)::g,a=>gD (decide (c.cells.length=b)) (dU (kT a (f*b) c.cells) λd=>CZ b g d)
@[simp] theorem Yl (b:Nat) (a:List T):CZ b [] a=some a:=rfl
@[simp] theorem J9 (a d:Nat) (b:T) (f:List (Nat×T)) (c:List T):CZ a ((d,b)::f) c=gD (decide (b.cells.length=a)) (dU (kT c (d*a) b.cells) λg=>CZ a f g):=rfl
def Ec(a:Nat):∀(b:List (Nat×T)) (c:List T),mG (λd=>some (Nat.mul d a,a)) b c=CZ a b c:=by
 intro b;induction b with
 |nil=>intro c;rfl
 |cons j b i=>
  intro c;obtain⟨d,f⟩:=j;show(gD (Nat.beq (kW f.cells) a) (dU (kT c (Nat.mul d a) f.cells) λg=>mG (λd=>some (Nat.mul d a,a)) b g))=_;simp only[jE,uV,i,J9];rfl
@[simp] theorem XS (c b:T) (a:List T):kT (c::a) 0 [b]=some (b::a):=by rw[tM];simp
@[simp] theorem XR (f c d:T) (a b:List T):kT (f::a) 0 (c::d::b)=dU (kT a 0 (d::b)) λg=>some (c::g):=by
 rw[tM,tM];simp only[bj,Nat.zero_add,List.take_zero,cD];by_cases hl:b.length+1<=a.length
 ·rw[aq dz,aq dz];simp
 ·rw[ao dz,ao dz];rfl
@[simp] theorem ZW (a:T) (b d:List T) (c:Nat):kT (a::b) (c+1) d=dU (kT b c d) λf=>some (a::f):=rfl
def Ks(cx:Ctx)(h:H)(b:Ty)(c:List (Nat×T)):aa lN:=match b.u with
 | .struct f=>dU (CW cx f c b.zero) λa=>some (.val (.agg a) h)
 | .array _ d=>dU (cx.ty d) λg=>dU (CZ g.size c b.zero) λa=>some (.val (.agg a) h)
 |_=>none
@[simp] theorem Yw (a:Ty) (c:List (Nat×T)):Ks cx h a c=(match a.u with
 | .struct f=>dU (CW cx f c a.zero) λb=>some (.val (.agg b) h)
 | .array _ d=>dU (cx.ty d) λg=>dU (CZ g.size c a.zero) λb=>some (.val (.agg b) h)
 |_=>none):=rfl
@[simp] theorem aaH (c:ab) (a:List (Nat×ah)):jp (.build c a.toArray) cx mask e h=dU (cx.ty c) λb=>dU (xK cx mask e a) λa=>Ks cx h b a:=by
 show(dU (cx.ty c) λb=>dU (partsOf cx mask e a) λa=>_)=_;rw[Cg];congr 1;funext b;congr 1;funext a;unfold Ks;cases b.u<;>first|rfl|(simp only[Gf,Ec,yk])
def Au(c:Nat):List (Nat×T)->List T->aa (List T)
 | [],a=>some a
 |(b,d)::f,a=>gD (decide (d.cells.length=c)) (gD (decide (b<a.length)) (Au c f (a.set b d)))
@[simp] theorem WI (b:Nat) (a:List T):Au b [] a=some a:=rfl
@[simp] theorem Ih (c b:Nat) (d:T) (f:List (Nat×T)) (a:List T):Au c ((b,d)::f) a=gD (decide (d.cells.length=c)) (gD (decide (b<a.length)) (Au c f (a.set b d))):=rfl
def Ge(c:Nat):∀(b:List (Nat×T)) (a:List T),pL c b a=Au c b a:=by
 intro b;induction b with
 |nil=>intro a;rfl
 |cons k b j=>
  intro a;obtain⟨d,f⟩:=k;show(gD (Nat.beq (kW f.cells) c) (dU (kM a d f) λg=>pL c b g))=_;simp only[jE,uV,j,Ih,kO];by_cases i:d<a.length<;>simp[i]
@[simp] theorem Rx (f:ab) (b:Nat) (c:List (Nat×ah)):jp (.buildSlice f b c.toArray) cx mask e h=dU (cx.ty f) λd=>(match d.u with
 | .slice g=>dU (cx.ty g) λa=>dU (xK cx mask e c) λc=>gD (decide (1<=a.size))<|gD (decide (b*a.size<=65536)) (dU (Au a.size c (List.replicate b a.kf)) λi=>
  some (.val (.arr h.size 0 0 b false) (h.cons ⟨a.size,0,0,true,false,i⟩)))
 |_=>none):=by
 show(dU (cx.ty f) λd=>_)=_;congr 1;funext d;cases d.u<;>first|rfl|skip
 rename_i g;simp only[Cg,Ge,nT,H.kI,LL,EI,AD];rfl
@[simp] theorem acr (b:ab) (a:ah):jp (.load b a) cx mask e h=dU (cx.ty b) λc=>dU (fP cx mask e a) λa=>val h (h.load c a):=rfl
def ldB(a:iZ)(c d f:Nat)(g:Ty):aa T:=gD (decide (a.ep=c)) (if a.it=true then none else dU (a.eY[d]?) λe=>dU (jX f e.cells) λb=>kl g b)
@[simp] theorem Wh (l b m:Nat) (k f:Bool) (c:List T) (a d g:Nat) (i:Ty):ldB ⟨l,b,m,k,f,c⟩ a d g i=gD (decide (b=a)) (if f=true then none else dU (c[d]?) λe=>dU (jX g e.cells) λj=>kl i j):=id rfl
@[simp] theorem Wg (j:Ty) (b c f i:Nat):h.load j (.ptr b c f i)=dU (h.get b) λa=>ldB a c f i j:=by
 show(dU (dU (h.get b) λa=>iZ.casesOn a λ_ d _ _ g l=>gD (Nat.beq d c) (Bool.casesOn g (mm l f) none)) λe=>dU (jX i e.cells) λk=>kl j k)=_;cases h.get b with
 |none=>rfl
 |some a=>
  obtain⟨o,d,p,n,g,m⟩:=a;simp only[dX,Wh,uV,kE];cases decide (d=c)<;>cases g<;>simp
def GZ(h:H)(c:Nat)(a:iZ)(f b g:Nat)(i:List T):aa H:=gD (decide (a.ep=f)) (if a.it=true then none else dU (a.eY[b]?) λe=>dU (mr e g i) λd=>some (dY h c ⟨a.sz,a.ep,a.ver+1,a.exact,false,a.eY.set b d⟩))
@[simp] theorem Vs (d k a l:Nat) (g i:Bool) (b:List T) (f c j:Nat) (m:List T):GZ h d ⟨k,a,l,g,i,b⟩ f c j m=gD (decide (a=f)) (if i=true then none else dU (b[c]?) λe=>dU (mr e j m) λn=>some (dY h d ⟨k,a,l+1,g,false,b.set c n⟩)):=id rfl
def yv{a:Nat}{o:iZ}(c:h.get a=some o)(f:iZ):h.put a f=some (dY h a f):=by
 have:∃d,h.put a f=some d:=by
  obtain⟨b,j,g⟩:=h;rw[H.get_eq]at c;simp only at c;by_cases i:a<b
  ·rw[aq i]at c;have hl:b-1-a<g.length:=by
    rcases aF (b-1-a) g.length with n|l
    ·exact n
    ·rw[aM l]at c;simp at c
   show∃d,(gD (Nat.blt a b) (dU (kM g (Nat.sub (Nat.sub b 1) a) f) λk=> @Bool.rec (λ_=>aa H) (some ⟨b,j,k⟩) (some ⟨b,a,k⟩) (Nat.blt a j)))=some d;rw[show Nat.blt a b=true by rw[aH];exact i,iu,kO,aq (by show b-1-a<_;omega),dX];cases Nat.blt a j<;>exact⟨_,rfl⟩
  ·rw[ao i]at c;simp at c
 obtain⟨d,m⟩:=this;unfold dY;rw[m];rfl
@[simp] theorem acg (l:Ty) (b i a g:Nat) (c:T):h.store l (.ptr b i a g) c=gD (decide (c.cells.length=l.size)) (dU (h.get b) λf=>GZ h b f i a g c.cells):=by
 show(gD (Nat.beq (kW c.cells) l.size) (dU (h.get b) λf=>iZ.casesOn f λp j q exact k n=>
  gD (Nat.beq j i) (@Bool.rec (λ_=>aa H) (dU (mm n a) λe=>dU (mr e g c.cells) λm=>dU (kM n a m) λd=>
   dU (gY (Nat.succ q)) λv=>h.put b ⟨p,j,v,exact,false,d⟩) none k)))=_
 simp only[jE,uV];cases r:h.get b with
 |none=>rfl
 |some f=>
  obtain⟨p,j,q,w,k,d⟩:=f;simp only[dX,Vs];congr 1;congr 1;cases k with
  |true=>rfl
  |false=>
   simp only[kE,cr,br];cases o:d[a]? with
   |none=>rfl
   |some e=>
    simp only[dX];cases mr e g c.cells with
    |none=>rfl
    |some m=>
     have t:a<d.length:=by
      rcases aF a d.length with u|s
      ·exact u
      ·rw[aM s]at o;simp at o
     simp only[dX,kO,aq t,iE,yv r]
@[simp] theorem aaB (b:ab) (a d:ah):jp (.store b a d) cx mask e h=dU (cx.ty b) λg=>dU (fP cx mask e a) λa=>dU (fP cx mask e d) λc=>gD c.il (dU (h.store g a c) λf=>some (.val .undef f)):=rfl
def ncW(h:H)(a:T):aa lN:=match a with| .ptr .. | .jy _| .func .. =>some (.val a h)|_=>none
@[simp] theorem acs (a b c d:Nat):ncW h (.ptr a b c d)=some (.val (.ptr a b c d) h):=rfl
@[simp] theorem UJ (a:ah):jp (.nilCheck a) cx mask e h=dU (fP cx mask e a) λb=>ncW h b:=rfl
@[simp] theorem X8 (d f:ah) (b:ak) (c:Int) (a:T):AS d f (.int b c) a=true:=id rfl
@[simp] theorem X7 (c d:ah) (b:List Nat) (a:T):AS c d (.str b) a=true:=id rfl
@[simp] theorem V9 (c d:ah) (b:Bool) (a:T):AS c d (.bool b) a=true:=id rfl
@[simp] theorem aed (g j:ab) (c d:ah):jp (.binOp .eql g c d j) cx mask e h=dU (cx.ty g) λi=>dU (fP cx mask e c) λa=>dU (fP cx mask e d) λb=>gD (AS c d a b) (dU (NG cx i a b) λf=>some (.val (.bool f) h)):=by
 show(dU (cx.ty g) λi=>dU (fP cx mask e c) λa=>dU (fP cx mask e d) λb=>gD (AS c d a b) (dU (NG cx i a b) λf=>val h (xa f)))=_;simp
@[simp] theorem ad4 (g j:ab) (c d:ah):jp (.binOp .neq g c d j) cx mask e h=dU (cx.ty g) λi=>dU (fP cx mask e c) λa=>dU (fP cx mask e d) λb=>gD (AS c d a b) (dU (NG cx i a b) λf=>some (.val (.bool !f) h)):=by
 show(dU (cx.ty g) λi=>dU (fP cx mask e c) λa=>dU (fP cx mask e d) λb=>gD (AS c d a b) (dU (NG cx i a b) λf=>val h (xa (!f))))=_;simp
@[simp] theorem acT (d:Ty) (a:ak) (b c:Int) (f:d.u= .int a):NG cx d (.int a b) (.int a c)=some (decide (b=c)):=by unfold NG;rw[f];simp
@[simp] theorem acS (c:Ty) (a b:List Nat) (d:c.u= .str):NG cx c (.str a) (.str b)=some (decide (a=b)):=by unfold NG;rw[d];simp
@[simp] theorem abx (c:Ty) (a b:Bool) (d:c.u= .bool):NG cx c (.bool a) (.bool b)=some (a==b):=by unfold NG;rw[d];simp
def xh(c:BinOp)(d f:aa T)(h:H):aa lN:=dU d λa=>dU f λb=>val h (binop c a b)
@[simp] theorem abb (c:BinOp) (a b:T):xh c (some a) (some b) h=val h (binop c a b):=rfl
@[simp] theorem aef (c d:ab) (a b:ah):jp (.binOp .add c a b d) cx mask e h=xh .add (fP cx mask e a) (fP cx mask e b) h:=rfl
@[simp] theorem ad1 (c d:ab) (a b:ah):jp (.binOp .sub c a b d) cx mask e h=xh .sub (fP cx mask e a) (fP cx mask e b) h:=rfl
@[simp] theorem ad5 (c d:ab) (a b:ah):jp (.binOp .mul c a b d) cx mask e h=xh .mul (fP cx mask e a) (fP cx mask e b) h:=rfl
@[simp] theorem ad3 (c d:ab) (a b:ah):jp (.binOp .quo c a b d) cx mask e h=xh .quo (fP cx mask e a) (fP cx mask e b) h:=rfl
@[simp] theorem ad2 (c d:ab) (a b:ah):jp (.binOp .rem c a b d) cx mask e h=xh .rem (fP cx mask e a) (fP cx mask e b) h:=rfl
@[simp] theorem ad8 (c d:ab) (a b:ah):jp (.binOp .lss c a b d) cx mask e h=xh .lss (fP cx mask e a) (fP cx mask e b) h:=rfl
@[simp] theorem ad9 (c d:ab) (a b:ah):jp (.binOp .leq c a b d) cx mask e h=xh .leq (fP cx mask e a) (fP cx mask e b) h:=rfl
@[simp] theorem aeb (c d:ab) (a b:ah):jp (.binOp .gtr c a b d) cx mask e h=xh .gtr (fP cx mask e a) (fP cx mask e b) h:=rfl
@[simp] theorem aec (c d:ab) (a b:ah):jp (.binOp .geq c a b d) cx mask e h=xh .geq (fP cx mask e a) (fP cx mask e b) h:=rfl
@[simp] theorem afg (a:UnOp) (d:ab) (b:ah):jp (.unOp a d b) cx mask e h=dU (fP cx mask e b) λc=>val h (unop a c):=rfl
@[simp] theorem Su (c:ab) (a:ah) (b:Nat):jp (.fieldAddr c a b) cx mask e h=dU (wL cx c b) λd=>dU (fP cx mask e a) λa=>faV d.1 h a:=rfl
@[simp] theorem WC (c:ab) (a:Nat):wL cx c a=dU (cx.ty c) λd=>(match d.u with| .struct b=>b[a]? |_=>none):=by
 show(dU (cx.ty c) λd=>match d.u with| .struct b=>mm b a|_=>none)=_;simp
def fdW(h:H)(off:Nat)(c:Ty)(d:T):aa lN:=match d with| .agg a=>dU (jX off a) λb=>val h (kl c b)|_=>none
@[simp] theorem acQ (off:Nat) (b:Ty) (a:List T):fdW h off b (.agg a)=dU (jX off a) λc=>val h (kl b c):=rfl
@[simp] theorem aaE (d:ab) (a:ah) (b:Nat):jp (.field d a b) cx mask e h=dU (wL cx d b) λc=>dU (cx.ty c.2) λf=>dU (fP cx mask e a) λa=>fdW h c.1 f a:=rfl
def ixW(cx:Ctx)(h:H)(g:Ty)(d:T)(c:Nat):aa lN:=match g.u with
 | .slice a=>dU (cx.ty a) λb=>kK h b d c
 | .array f a=>dU (cx.ty a) λb=>oY h f b d c
 |_=>none
@[simp] theorem aeu (f:Ty) (d:T) (b:Nat):ixW cx h f d b=(match f.u with
 | .slice a=>dU (cx.ty a) λc=>kK h c d b
 | .array g a=>dU (cx.ty a) λc=>oY h g c d b
 |_=>none):=rfl
@[simp] theorem Ss (c:ab) (b a:ah):jp (.indexAddr c b a) cx mask e h=dU (cx.ty c) λf=>dU (fP cx mask e b) λb=>dU (fP cx mask e a) λa=>dU (pV a) λd=>ixW cx h f b d:=rfl
@[simp] theorem M2 (d:Ty) (b:List T) (f:Bool) (c:Nat):kK h d (.dM b f) c=dU (b[c]?) λa=>gD (decide (a.cells.length=d.size)) (some (.val (.jy a.cells) h)):=by
 show(dU (mm b c) λa=>gD (Nat.beq (kW a.cells) d.size) (some (lN.val (.jy a.cells) h)))=_;simp
@[simp] theorem PZ (i:Ty) (a c g f:Nat) (j:Bool) (d:Nat):kK h i (.arr a c g f j) d=gD (decide (d<f)) (dU (h.get a) λb=>gD (decide (b.sz=i.size))<|gD (decide (b.ep=c)) (some (.val (.ptr a c (g+d) 0) h))):=by
 show(gD (Nat.blt d f) (dU (h.get a) λb=>gD (Nat.beq b.sz i.size)<|gD (Nat.beq b.ep c) (dU (gY (Nat.add g d)) λk=>some (lN.val (.ptr a c k 0) h))))=_;simp
def icW(cx:Ctx)(h:H)(l:Ty)(c:T)(a:Nat):aa lN:=match l.u with
 | .str=>(match c with| .str k=>dU (k[a]?) λd=>some (.val (.int .u8 d) h)|_=>none)
 | .array i g=>(match c with
  | .agg f=>dU (cx.ty g) λb=>gD (decide (a<i)) (dU (jX (a*b.size) f) λj=>val h (kl b j))
  |_=>none)
 |_=>none
@[simp] theorem aev (d:Ty) (b:T) (a:Nat):icW cx h d b a=(match d.u with
 | .str=>(match b with| .str l=>dU (l[a]?) λf=>some (.val (.int .u8 f) h)|_=>none)
 | .array j i=>(match b with
  | .agg g=>dU (cx.ty i) λc=>gD (decide (a<j)) (dU (jX (a*c.size) g) λk=>val h (kl c k))
  |_=>none)
 |_=>none):=rfl
@[simp] theorem aaD (d:ab) (a b:ah):jp (.index d a b) cx mask e h=dU (cx.ty d) λf=>dU (fP cx mask e a) λa=>dU (fP cx mask e b) λb=>dU (pV b) λc=>icW cx h f a c:=by
 show(dU (cx.ty d) λf=>dU (fP cx mask e a) λa=>dU (fP cx mask e b) λb=>dU (pV b) λc=>match f.u with
  | .str=>(match a with| .str n=>dU (mm n c) λi=>val h (some (.int .u8 (.ofNat i)))|_=>none)
  | .array l k=>(match a with
   | .agg j=>dU (cx.ty k) λg=>gD (Nat.blt c l) (dU (jX (Nat.mul c g.size) j) λm=>val h (kl g m))
   |_=>none)
  |_=>none)=_
 simp only[kE,Tu,yk];rfl
@[simp] theorem V6 (b:ah) (a:Nat):jp (.extract b a) cx mask e h=dU (fP cx mask e b) λc=>exV h c a:=rfl
@[simp] theorem aaG (b:aj) (a:List ah) (f:af ab):jp (.call ⟨.value (.func b),a.toArray,f⟩) cx mask e h=dU (fN (fP cx mask e) a) λc=>some (.call b c):=by
 show(dU (p9 cx mask e a) λa=>dU (some (T.func b [])) λg=>match g with
  | .func b d=>dU (Ej a d) λc=>some (lN.call b c)
  |_=>none)=_
 simp
def abD(c:List T)(d:T):aa lN:=match d with| .func b a=>some (.call b (c++a))|_=>none
@[simp] theorem Yq (c:List T) (b:aj) (a:List T):abD c (.func b a)=some (.call b (c++a)):=rfl
@[simp] theorem aaF (c:Tmp) (a:List ah) (i:af ab):jp (.call ⟨.value (.tmp c),a.toArray,i⟩) cx mask e h=dU (fN (fP cx mask e) a) λb=>dU (fP cx mask e (.tmp c)) λd=>abD b d:=by
 show(dU (p9 cx mask e a) λa=>dU (fP cx mask e (.tmp c)) λd=>match d with
  | .func g f=>dU (Ej a f) λb=>some (lN.call g b)
  |_=>none)=_
 simp only[Hl,pT,dX];rfl
@[simp] theorem aea (a:List ah) (b:ab):jp (.call ⟨.builtin .len,a.toArray,#[b]⟩) cx mask e h=dU (fN (fP cx mask e) a) λc=>(match c with| [d]=>Np cx h [b] d|_=>none):=rfl
def DJ(cx:Ctx)(h:H)(g:Ty)(a:T):aa lN:=match g.u with
 | .str=>(match a with| .str f=>some (.val (.int .i64 f.length) h)|_=>none)
 | .slice _=>(match a with
  | .dM b _=>some (.val (.int .i64 b.length) h)
  | .gu=>some (.val (.int .i64 0) h)
  | .arr _ _ _ c _=>some (.val (.int .i64 c) h)
  |_=>none)
 | .array d _=>some (.val (.int .i64 d) h)
 |_=>none
def Bv(b:Ty)(a:T):DJ cx h b a=(match b.u with
 | .str=>(match a with| .str g=>some (.val (.int .i64 g.length) h)|_=>none)
 | .slice _=>(match a with
  | .dM c _=>some (.val (.int .i64 c.length) h)
  | .gu=>some (.val (.int .i64 0) h)
  | .arr _ _ _ d _=>some (.val (.int .i64 d) h)
  |_=>none)
 | .array f _=>some (.val (.int .i64 f) h)
 |_=>none):=rfl
@[simp] theorem aaS (b:Ty) (a:List Nat) (c:b.u= .str):DJ cx h b (.str a)=some (.val (.int .i64 a.length) h):=by rw[Bv,c]
@[simp] theorem EN (b:Ty) (a:List T) (c:Bool) (f:ab) (d:b.u= .slice f):DJ cx h b (.dM a c)=some (.val (.int .i64 a.length) h):=by rw[Bv,d]
@[simp] theorem MX (a:Ty) (c:ab) (b:a.u= .slice c):DJ cx h a .gu=some (.val (.int .i64 0) h):=by rw[Bv,b]
@[simp] theorem PT (b:Ty) (c d i a:Nat) (f:Bool) (j:ab) (g:b.u= .slice j):DJ cx h b (.arr c d i a f)=some (.val (.int .i64 a) h):=by rw[Bv,g]
@[simp] theorem adc (a:ab) (c:T):Np cx h [a] c=dU (cx.ty a) λb=>DJ cx h b c:=by
 show(dU (mm [a] 0) λa=>dU (cx.ty a) λb=>_)=_;simp only[kE,List.getElem?_cons_zero,dX];congr 1;funext b;unfold DJ;cases b.u<;>first|rfl|(cases c<;>first|rfl|(simp;try rfl))
@[simp] theorem ad6 (a:List ah) (b:af ab):jp (.call ⟨.builtin .min,a.toArray,b⟩) cx mask e h=dU (fN (fP cx mask e) a) λc=>lA .min cx h b.toList c:=rfl
@[simp] theorem ad7 (a:List ah) (b:af ab):jp (.call ⟨.builtin .max,a.toArray,b⟩) cx mask e h=dU (fN (fP cx mask e) a) λc=>lA .max cx h b.toList c:=rfl
@[simp] theorem aeh (f:List ab) (c:ak) (a b:Int):lA .min cx h f [.int c a,.int c b]=some (.val (.int c (min a b)) h):=by
 show val h (gD (Dx c c) (xE c (@Bool.rec (λ_=>Int) a b (Lg b a))))=_;rw[rX,iu,oO,wH];simp only[yk,ar,lN.val.injEq,T.int.injEq,true_and,and_true];by_cases d:b<a
 ·rw[aY d];show b=min a b;omega
 ·rw[aP d];show a=min a b;omega
@[simp] theorem aei (f:List ab) (c:ak) (a b:Int):lA .max cx h f [.int c a,.int c b]=some (.val (.int c (max a b)) h):=by
 show val h (gD (Dx c c) (xE c (@Bool.rec (λ_=>Int) a b (Lg a b))))=_;rw[rX,iu,oO,wH];simp only[yk,ar,lN.val.injEq,T.int.injEq,true_and,and_true];by_cases d:a<b
 ·rw[aY d];show b=max a b;omega
 ·rw[aP d];show a=max a b;omega
end
end
noncomputable section
abbrev hE:H:=⟨0,0,[]⟩
structure GM(P:ai)(cx:Ctx)(f:aj)(fn:Func)(mask:Nat)(dl:DL):Prop where
 at_:P.funcs[f]? =some fn
 ok:xg ⟨fn,mask,false,none⟩=true
 dr:mR dl (fn.body.getD .skip)=true
def nM(a:fW):Nat->List T->Prop
 |_,[]=>True
 |i,b::c=>dL a i=some b/\nM a (i+1) c
@[simp] theorem XN (b:fW) (a:Nat):nM b a []=True:=rfl
@[simp] theorem Vc (b:fW) (a:Nat) (c:T) (d:List T):nM b a (c::d)=(dL b a=some c/\nM b (a+1) d):=rfl
def mF(mask:Nat):∀(d a:Nat) (f:List T),f.length<=d->∃b,mw mask d a f=some b/\(∀c,c<a->dL b c=none)/\nM b a f:=by
 intro d;induction d with
 |zero=>
  intro a f hl;have:f=[]:=bm dz;subst this;exact⟨.nil,rfl,λ_ _=>rfl,trivial⟩
 |succ d q=>
  intro a f hl;have s:∀(e:List T) (b:fW) (c:Nat) (m:T) (g:Nat),c<g->nM b g e->nM (.cons c m b) g e:=by
   intro e;induction e with
   |nil=>intro _ _ _ _ _ _;trivial
   |cons l e r=>
    intro b c m g t o;exact⟨by rw[lK,ao dz];exact o.1,r b c m (g+1) dz o.2⟩
  cases f with
  |nil=>
   obtain⟨b,i,j,n⟩:=q (a+1) [] dA;show∃b,(dU (gY (Nat.succ a)) λk=> @Bool.rec (λ_=>aa fW) (mw mask d k []) (dU (mw mask d k []) λh=>some (.cons a .undef h)) (kh mask a))=some b/\_;rw[iE,dX];cases kh mask a with
   |false=>exact⟨b,i,λc p=>j c dz,trivial⟩
   |true=>
    refine⟨.cons a .undef b,?_,λc p=> ?_,trivial⟩
    ·show(dU (mw mask d (a+1) []) λh=>some (fW.cons a .undef h))=_;rw[i];rfl
    ·rw[lK,ao dz];exact j c dz
  |cons l e=>
   obtain⟨b,i,j,n⟩:=q (a+1) e (by simp at hl;omega);refine⟨.cons a l b,?_,λc p=> ?_,?_,s _ _ _ _ _ dz n⟩
   ·show(dU (gY (Nat.succ a)) λk=>dU (mw mask d k e) λh=>some (fW.cons a l h))=_;rw[iE,dX,i];rfl
   ·rw[lK,ao dz];exact j c dz
   ·rw[lK,aq rfl]
def AB(cx:Ctx)(mask:Nat)(d:List ResultVar)(e:fW)(b:H)(c:List T->Prop):Prop:=∃a,mX cx mask ⟨e,.nil⟩ b d=some a/\c a
section
variable {P:ai}{cx:Ctx}{cf:iY}{mask:Nat}
@[simp] theorem abU (e:fW) (c:H) (b:List T->Prop):AB cx mask [] e c b=b []:=by
 apply propext;constructor
 ·rintro⟨d,hl,a⟩;have hl:some []=some d:=hl;simp only[ar]at hl;subst hl;exact a
 ·exact λa=>⟨[],rfl,a⟩
def WV(c:aa T)(b:T->Prop):Prop:=∃a,c=some a/\b a
@[simp] theorem adl (b:T) (d:T->Prop):WV (some b) d=d b:=by
 apply propext;constructor
 ·rintro⟨e,c,a⟩;simp only[ar]at c;subst c;exact a
 ·exact λa=>⟨b,rfl,a⟩
def E6(k:ResultVar)(l:List ResultVar)(b:fW)(c:H)(i:List T->Prop):AB cx mask (k::l) b c i=
 WV (ResultVar.casesOn k (λh=>Env.get mask ⟨b,.nil⟩ h) (λm h=>dU (Env.get mask ⟨b,.nil⟩ m) λn=>dU (cx.ty h) λo=>c.load o n)) λa=>AB cx mask l b c λj=>i (a::j):=by
 apply propext;unfold AB WV mX;simp only[jH];constructor
 ·rintro⟨j,hl,d⟩;obtain⟨a,f,hl⟩:=dJ.1 hl;obtain⟨g,e,hl⟩:=dJ.1 hl;simp only[ar]at hl;subst hl;exact⟨a,f,g,e,d⟩
 ·rintro⟨a,f,g,e,d⟩;refine⟨a::g,?_,d⟩;rw[f,dX,e];rfl
@[simp] theorem abT (e:Tmp) (d:List ResultVar) (a:fW) (b:H) (c:List T->Prop):AB cx mask (.tmp e::d) a b c=WV (Env.get mask ⟨a,.nil⟩ e) λg=>AB cx mask d a b λf=>c (g::f):=E6 _ d a b c
@[simp] theorem YF (e:Tmp) (f:ab) (d:List ResultVar) (b:fW) (a:H) (c:List T->Prop):AB cx mask (.cell e f::d) b a c=WV (dU (Env.get mask ⟨b,.nil⟩ e) λh=>dU (cx.ty f) λi=>a.load i h) λj=>AB cx mask d b a λg=>c (j::g):=E6 _ d b a c
def CC(cx:Ctx)(mask:Nat)(e:List ResultVar)(d:List T->H->Prop):iM:=
 ⟨λb a=>AB cx mask e b.vars a λc=>d c a,λ_ _ _=>False,λb a=>AB cx mask e b.vars a λc=>d c a⟩
@[simp] theorem aet (d:List ResultVar) (c:List T->H->Prop) (b:Env) (a:H):(CC cx mask d c).n b a=AB cx mask d b.vars a λe=>c e a:=rfl
@[simp] theorem aes (d:List ResultVar) (c:List T->H->Prop) (b:Env) (a:H):(CC cx mask d c).r b a=AB cx mask d b.vars a λe=>c e a:=rfl
def Dm{g:Out}{h:List ResultVar}{f:List T->H->Prop}(i:W g (CC cx mask h f)):∃c b a,g=some (c,b,a)/\(c= .normal\/c= .ret)/\AB cx mask h b.vars a λj=>f j a:=by
 obtain⟨c,b,a,e,d⟩:=i;cases c with
 |normal=>exact⟨_,b,a,e,.inl rfl,d⟩
 |exit k=>exact d.elim
 |ret=>exact⟨_,b,a,e,.inr rfl,d⟩
def oK{j:List ResultVar}{a:Env}{g:H}{k:List T}(hl:mX cx mask ⟨a.vars,.nil⟩ g j=some k):mX cx mask a g j=some k:=by
 unfold mX at*
 induction j generalizing k with
 |nil=>exact hl
 |cons n j s=>
  rw[jH]at hl|-;obtain⟨b,e,hl⟩:=dJ.1 hl;obtain⟨t,o,hl⟩:=dJ.1 hl;simp only[ar]at hl;subst hl;have m:∀l b,Env.get mask ⟨a.vars,.nil⟩ l=some b->Env.get mask a l=some b:=by
   intro l b i;obtain⟨v,u⟩:=a;rw[Bx]at i|-;split at i
   ·rename_i p;rw[aq p];exact i
   ·simp[EM]at i
  have r:(@ResultVar.rec (λ_=>aa T) (λc=>Env.get mask a c) (λf c=>dU (Env.get mask a f) λd=>dU (cx.ty c) λh=>g.load h d) n)=some b:=by
   cases n with
   |tmp c=>exact m c b e
   |cell f c=>
    have e:(dU (Env.get mask ⟨a.vars,.nil⟩ f) λd=>dU (cx.ty c) λh=>g.load h d)=some b:=e;obtain⟨d,q,e⟩:=dJ.1 e;show(dU (Env.get mask a f) λd=>dU (cx.ty c) λh=>g.load h d)=some b;rw[m f d q];exact e
  refine dJ.2 ⟨b,r,dJ.2 ⟨t,s o,rfl⟩⟩
end
def Rb{l:Env->H->Out}(e:Nat)(g:Nat->fW->H->Prop){k:iM}
 (p:∀a d b,a<=e->g a d b->W (l ⟨d,.nil⟩ b) (xQ (λc b=>c.tmps= .nil/\a<e/\g (a+1) c.vars b) k)) {j:Nat} (r:e<j) {a:Nat} (i:a<=e) {d:fW} {b:H} (h:g a d b):W (ox l j ⟨d,.nil⟩ b) k:=by
 refine Q9 (σ:=Nat) (I:=λa c b=>a<=e/\c.tmps= .nil/\g a c.vars b) (m:=λa=>e-a) ?_ j a _ _ dz ⟨i,rfl,h⟩;rintro a ⟨d,t⟩ b ⟨i,ht,h⟩;simp only at ht h;subst ht;obtain⟨n,c,o,q,f⟩:=p a d b i h;refine⟨n,c,o,q,?_⟩;cases n with
 |normal=>exact⟨a+1,by have:=f.2.1;omega,by have:=f.2.1;omega,f.1,f.2.2⟩
 |exit s=>exact f
 |ret=>exact f
@[simp] theorem afA:Hp hE=True:=by simp[Hp]
@[simp] theorem ab0 (b:H) (c:iZ):Hp (b.cons c)=Hp b:=by
 apply propext;constructor
 ·intro a;unfold Hp at*;simp[H.cons]at a;exact a
 ·exact λa=>TQ a c
end
end Go.TI
