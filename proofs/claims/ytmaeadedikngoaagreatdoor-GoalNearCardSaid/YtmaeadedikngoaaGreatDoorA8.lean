/- Texts TiQuick to TiDeep. -/
import Derived.Test.YtmaeadedikngoaaGreatDoorA7
import Derived.KernelRfl
set_option linter.all false
namespace Go.TI
noncomputable section
def VI(a:Fun):Code:=Option.casesOn a.fn.body .skip λb=>b
section
variable {mask nt:Nat}{K:List Nat}{pre:List T}
end
section
variable {P:List T->Prop}
end
end
noncomputable section
mutual
def xn:T->T->Bool
 | .undef,a=>(match a with| .undef=>true|_=>false)
 | .bool y,a=>(match a with| .bool n=>Bool.casesOn y (!n) n|_=>false)
 | .int o q,a=>(match a with| .int p r=>decide (o=p)&&decide (q=r)|_=>false)
 | .str s,a=>(match a with| .str t=>decide (s=t)|_=>false)
 | .ka,a=>(match a with| .ka=>true|_=>false)
 | .kv,a=>(match a with| .kv=>true|_=>false)
 | .ku,a=>(match a with| .ku=>true|_=>false)
 | .nh,a=>(match a with| .nh=>true|_=>false)
 | .fR,a=>(match a with| .fR=>true|_=>false)
 | .ptr a h j l,b=>(match b with| .ptr d i k m=>Nat.beq a d&&Nat.beq h i&&Nat.beq j k&&Nat.beq l m|_=>false)
 | .arr a h j l g,b=>(match b with| .arr d i k m c=>Nat.beq a d&&Nat.beq h i&&Nat.beq j k&&Nat.beq l m&&Bool.casesOn g (!c) c|_=>false)
 | .map a,b=>(match b with| .map d=>Nat.beq a d|_=>false)
 | .dF e g,b=>(match b with| .dF f c=>AE e f&&Bool.casesOn g (!c) c|_=>false)
 | .agg e,b=>(match b with| .agg f=>AE e f|_=>false)
 | .func g e,b=>(match b with| .func c f=>Nat.beq g c&&AE e f|_=>false)
 | .iface u w,b=>(match b with| .iface v x=>Nat.beq u v&&xn w x|_=>false)
 |_,_=>false
def AE:List T->List T->Bool
 | [],a=>(match a with| []=>true|_=>false)
 |x::b,a=>(match a with|y::c=>xn x y&&AE b c|_=>false)
end
def Jk{b a:Bool}(c:(@Bool.rec (λ_=>Bool) (!a) a b)=true):b=a:=by cases b<;>cases a<;>simp_all
mutual
def I5:(h b:T)->xn h b=true->h=b
 | .undef,b,a=>by cases b<;>first|rfl|simp[xn]at a
 | .bool z,b,a=>by
  cases b<;>first|(simp[xn]at a;done)|skip
  rename_i n;have a:(@Bool.rec (λ_=>Bool) (!n) n z)=true:=by unfold xn at a;exact a
  rw[Jk a]
 | .int A B,b,a=>by cases b<;>simp[xn]at a;obtain⟨rfl,rfl⟩:=a;rfl
 | .str C,b,a=>by cases b<;>simp[xn]at a;subst a;rfl
 | .ka,b,a=>by cases b<;>first|rfl|simp[xn]at a
 | .kv,b,a=>by cases b<;>first|rfl|simp[xn]at a
 | .ku,b,a=>by cases b<;>first|rfl|simp[xn]at a
 | .nh,b,a=>by cases b<;>first|rfl|simp[xn]at a
 | .fR,b,a=>by cases b<;>first|rfl|simp[xn]at a
 | .ptr b i j k,c,a=>by cases c<;>simp[xn]at a;obtain⟨⟨⟨rfl,rfl⟩,rfl⟩,rfl⟩:=a;rfl
 | .arr b i j k g,c,a=>by
  cases c<;>first|(simp[xn]at a;done)|skip
  rename_i o p v w f;have a:(Nat.beq b o&&Nat.beq i p&&Nat.beq j v&&Nat.beq k w&& @Bool.rec (λ_=>Bool) (!f) f g)=true:=by unfold xn at a;exact a
  simp only[aB]at a;obtain⟨⟨⟨⟨q,r⟩,s⟩,t⟩,u⟩:=a;rw[aC q,aC r,aC s,aC t,Jk u]
 | .map b,c,a=>by cases c<;>simp[xn]at a;subst a;rfl
 | .dF d g,c,a=>by
  cases c<;>first|(simp[xn]at a;done)|skip
  rename_i e f;have a:(AE d e&& @Bool.rec (λ_=>Bool) (!f) f g)=true:=by unfold xn at a;exact a
  simp only[aB]at a;rw[AX d e a.1,Jk a.2]
 | .agg d,c,a=>by
  cases c<;>first|(simp[xn]at a;done)|skip
  rename_i e;have a:AE d e=true:=by unfold xn at a;exact a
  rw[AX d e a]
 | .func g d,c,a=>by
  cases c<;>first|(simp[xn]at a;done)|skip
  rename_i f e;have a:(Nat.beq g f&&AE d e)=true:=by unfold xn at a;exact a
  simp only[aB]at a;rw[aC a.1,AX d e a.2]
 | .iface x l,c,a=>by
  cases c<;>first|(simp[xn]at a;done)|skip
  rename_i y m;have a:(Nat.beq x y&&xn l m)=true:=by unfold xn at a;exact a
  simp only[aB]at a;rw[aC a.1,I5 l m a.2]
 | .ji _,b,a=>by simp[xn]at a
 | .iter _,b,a=>by simp[xn]at a
 | .tuple _,b,a=>by simp[xn]at a
def AX:(c b:List T)->AE c b=true->c=b
 | [],b,a=>by cases b<;>first|rfl|simp[AE]at a
 |x::d,b,a=>by
  cases b<;>first|(simp[AE]at a;done)|skip
  rename_i e f;have a:(xn x e&&AE d f)=true:=by unfold AE at a;exact a
  simp only[aB]at a;rw[I5 x e a.1,AX d f a.2]
end
structure Ent where
 f:Nat
 args:List T
 h:H
 r:T
 h':H
def pT(d:ai)(cx:Ctx)(a:Ent):Prop:=
 ∀e b c (g:af am),St cx e b.heap c a.h->fV b.heap c a.args g.toList->yE d (pU cx e b c a.h a.r a.h') ((callFunc a.f g).run d b)
mutual
def mG:T->Bool
 | .undef| .bool _| .int _ _| .str _| .ka| .fR| .kv| .ku| .nh=>true
 | .dF a _=>mp a
 | .agg a=>mp a
 | .tuple a=>mp a
 | .ji a=>mp a
 | .func _ a=>mp a
 | .iface _ b=>mG b
 |_=>false
def mp:List T->Bool
 | []=>true
 |x::a=>mG x&&mp a
end
mutual
def BP:(c:T)->mG c=true->o8 0 c
 | .undef,_=> .undef
 | .bool _,_=> .bool _
 | .int _ _,_=> .int _ _
 | .str _,_=> .str _
 | .ka,_=> .ka
 | .fR,_=> .fR
 | .kv,_=> .kv
 | .ku,_=> .ku
 | .nh,_=> .nh
 | .dF b h,a=> .dF _ _ λc f=>by
  obtain⟨d,e,g⟩:=List.mem_flatMap.1 f;exact(lx b (by unfold mG at a;exact a) d e).cells c g
 | .agg b,a=> .agg _ (lx b (by unfold mG at a;exact a))
 | .tuple b,a=> .tuple _ (lx b (by unfold mG at a;exact a))
 | .ji b,a=> .ji _ (lx b (by unfold mG at a;exact a))
 | .func _ b,a=> .func _ _ (lx b (by unfold mG at a;exact a))
 | .iface _ c,a=> .iface _ _ (BP c (by unfold mG at a;exact a))
 | .ptr _ _ _ _,a=>by simp[mG]at a
 | .arr _ _ _ _ _,a=>by simp[mG]at a
 | .iter _,a=>by simp[mG]at a
 | .map _,a=>by simp[mG]at a
def lx:(d:List T)->mp d=true->∀c∈d,o8 0 c
 | [],_=>λc a=>by simp at a
 |x::g,b=>λc a=>by
  unfold mp at b;rw[aB]at b;have e:=BP x b.1;rcases List.mem_cons.1 a with f|a
  ·rw[f];exact e
  ·exact lx g b.2 c a
end
def fg.move{y:af Obj}{z A:Mu}{b:T}{l:am}(a:fg y z b l)(x:∀n,mR A n->mR z n)(hl:o8 0 b):fg y A b l:=by
 induction a with
 |undef=>exact .undef
 |bool h=>exact .bool h
 |int c J=>exact .int c J
 |str K a=>exact .str K a
 |ka=>exact .ka
 |ptr h D n P o g s G O=>cases hl with|ptr _ _ _ _ a=>omega
 |ji r p off arr k fz u t f j hr e=>
  cases hl with|ji _ a=>exact .ji r p off arr k fz (λc=>u (x _ c)) t f j λc b d=>e c b d (a b (ax d))
 |m7 m g=>exact .m7 m g
 |dF C E m p off q L arr k fz u t w H I f j hr e=>
  cases hl with|dF _ _ a=>exact .dF C E m p off q L arr k fz (λc=>u (x _ c)) t w H I f j λc b d=>e c b d (a b (ax d))
 |fR g q=>exact .fR g q
 |arr h D R Q m o g N s G w v=>cases hl with|arr _ _ _ _ _ a=>omega
 |func F B i f hr e=>cases hl with|func _ _ a=>exact .func F B i f λc b d=>e c b d (a b (ax d))
 |kv=>exact .kv
 |ku=>exact .ku
 |iface k b l a e=>cases hl with|iface _ _ a=>exact .iface k b l (e a)
 |iter h o g s v=>cases hl with|iter _ a=>omega
 |map h o n s v=>cases hl with|map _ a=>omega
 |nh=>exact .nh
 |agg r i f j hr e=>cases hl with|agg _ a=>exact .agg r i f j λc b d=>e c b d (a b (ax d))
 |tuple M i f hr e=>cases hl with|tuple _ a=>exact .tuple M i f λc b d=>e c b d (a b (ax d))
def kM(d:ai)(cx:Ctx)(h:Nat)(g:List T)(i:T):Prop:=
 ∀e a c (f:af am) (b:H),St cx e a.heap c b->fV a.heap c g f.toList->yE d (pU cx e a c b i b) ((callFunc h f).run d a)
def xR{s:ai}{cx:Ctx}{u:Nat}{k:List T}{y:T}(hl:∀i∈k,o8 0 i)(C:pT s cx ⟨u,k,⟨0,0,[]⟩,y,⟨0,0,[]⟩⟩):kM s cx u k y:=by
 intro O h f t P e v;have q:∀b,mR ⟨λ_=>none,mR f⟩ b->mR f b:=by
  rintro b (⟨d,c,a,_⟩|hr)
  ·simp at a
  ·exact hr
 have D:∀b,mR f b->b<h.heap.size:=by
  rintro b (⟨d,c,a,rfl⟩|hr)
  ·exact e.lt a
  ·exact e.pW b hr
 have J:St cx h.heap.size h.heap ⟨λ_=>none,mR f⟩ ⟨0,0,[]⟩:=by
  refine⟨rfl,au _,λd c a=>by simp at a,λd N c M a=>by simp at a,λd c a=>by simp at a,λd c a=>by simp at a,λb hr=>D b hr,λn m p=> ?_⟩;have:=e.yh n m p;refine this.move q ?_;obtain⟨_,_,_,_,_,_,_,_,_,G,_⟩:=this.ly;exact .ji _ λi l=>(G i l).2.low 0
 have A:fV h.heap ⟨λ_=>none,mR f⟩ k t.toList:=⟨v.1,λr i l=>(v.2 r i l).move q (hl i (ax l))⟩;refine(C h.heap.size h ⟨λ_=>none,mR f⟩ t J A).mono λi z ⟨⟨L,x,I,g,Q⟩,R⟩=> ?_;have F:∀b,mR f b->mR L b:=λb j=> .inr (by rw[g.ext.oH];exact j);have o:Ext h.heap f z.heap f:=by
  refine⟨g.ext.size,λb j w=>⟨(g.ext.mZ b j (λr=>w (q b r))).1,w⟩,λd c a=>⟨c,a,.inl rfl⟩,rfl,λb j hr=> ?_⟩;exact g.ext.kept b j (.inr hr)
 have B:∀d c,f d=some c->z.heap[c.iI]? =h.heap[c.iI]? :=λd c a=>g.ext.kept c.iI (e.lt a) (.inl ⟨d,c,a,rfl⟩);refine⟨⟨f,x.move F (x.low λd c a=>I.ez a),⟨e.wf,aS e.fit g.ext.size,λd c a=> ?_,e.inj,e.low,e.apart,λb hr=>bE (e.pW b hr) g.ext.size,λn m p=>(e.yh n m p).ext o⟩,⟨o,g.os,g.tape,g.output⟩,xE.refl _ _⟩,kJ.refl e.wf⟩;obtain⟨K,H,E⟩:=e.box d c a;exact⟨K,H,E.ext o (B d c a)⟩
def Ap:List T->List T->Bool
 | [],a=>(match a with| []=>true|_=>false)
 |x::b,a=>(match a with|y::c=>Ap b c&&xn x y|_=>false)
def OO:∀(c a:List T),Ap c a=true->c=a:=by
 intro c;induction c with
 |nil=>intro a b;cases a<;>first|rfl|simp[Ap]at b
 |cons f g d=>
  intro a b;cases a with
  |nil=>simp[Ap]at b
  |cons h e=>
   simp only[Ap,aB]at b;rw[I5 _ _ b.2,d e b.1]
abbrev uI:=List (Nat×List (List T×T))
def DT(e:List (List T×T))(b:List T):aa T:=
 @List.rec (List T×T) (λ_=>aa T) none (λc _ d=>Prod.casesOn c λa f=> @Bool.rec (λ_=>aa T) d (some f) (Ap b a)) e
def Ao(h:uI)(d:Nat)(b:List T):aa T:=
 @List.rec (Nat×List (List T×T)) (λ_=>aa T) none (λc _ a=>Prod.casesOn c λe f=> @Bool.rec (λ_=>aa T) a (Option.casesOn (DT f b) a λg=>some g) (Nat.beq d e)) h
inductive xD (P:ai) (cx:Ctx):uI->Prop where
 |nil:xD P cx []
 |new {f:Nat} {t:uI}:xD P cx t->xD P cx ((f,[])::t)
 |ent {f:Nat} {a:List T} {r:T} {l:List (List T×T)} {t:uI}:kM P cx f a r->xD P cx ((f,l)::t)->xD P cx ((f,(a,r)::l)::t)
def xD.mem{g:ai}{cx:Ctx}{h:uI}(c:xD g cx h):∀b d,(b,d)∈h->∀a e,(a,e)∈d->kM g cx b a e:=by
 induction c with
 |nil=>intro b d c;simp at c
 |new _ f=>
  intro b d c a e hr;rcases List.mem_cons.1 c with k|k
  ·simp only[ay]at k;obtain⟨_,rfl⟩:=k;simp at hr
  ·exact f b d k a e hr
 |ent i _ f=>
  intro b d c a e hr;rcases List.mem_cons.1 c with k|k
  ·simp only[ay]at k;obtain⟨rfl,rfl⟩:=k;rcases List.mem_cons.1 hr with q|q
   ·simp only[ay]at q;obtain⟨rfl,rfl⟩:=q;exact i
   ·exact f _ _ (df ..) a e q
  ·exact f b d (cz _ k) a e hr
def LS{c:List (List T×T)}{b:List T}{d:T}(a:DT c b=some d):(b,d)∈c:=by
 induction c with
 |nil=>simp[DT]at a
 |cons g c h=>
  obtain⟨f,r1⟩:=g;have a: @Bool.rec (λ_=>aa T) (DT c b) (some r1) (Ap b f)=some d:=a;cases e:Ap b f with
  |false=>rw[e]at a;exact cz _ (h a)
  |true=>
   rw[e]at a;have a:some r1=some d:=a;simp only[ar]at a;subst a;rw[OO _ _ e];exact df ..
def LR{e:uI}{c:Nat}{b:List T}{d:T}(a:Ao e c b=some d):∃f,(c,f)∈e/\(b,d)∈f:=by
 induction e with
 |nil=>simp[Ao]at a
 |cons l e o=>
  obtain⟨h,f⟩:=l;have a: @Bool.rec (λ_=>aa T) (Ao e c b) (@Option.rec T (λ_=>aa T) (Ao e c b) (λd=>some d) (DT f b)) (Nat.beq c h)=some d:=a;have k:Ao e c b=some d->∃g,(c,g)∈(h,f)::e/\(b,d)∈g:=λp=>by
   obtain⟨g,m,n⟩:=o p;exact⟨g,cz _ m,n⟩
  cases j:Nat.beq c h with
  |false=>rw[j]at a;exact k a
  |true=>
   rw[j]at a;cases i:DT f b with
   |none=>rw[i]at a;exact k a
   |some q=>
    rw[i]at a;have a:some q=some d:=a;simp only[ar]at a;subst a;rw[aC j];exact⟨f,df ..,LS i⟩
def Ou(h:uI)(ft:aj->aa pJ):aj->aa pJ:=λb=>
 Option.casesOn (ft b) none λe=>some λd f a c=>Option.casesOn (Ao h b a) (e d f a c) λg=>some (g,c)
def Ot{i:ai}{cx:Ctx}{h:uI}{ft:aj->aa pJ}(y:xD i cx h)(z:∀a c,ft a=some c->lO i cx a c):∀a c,Ou h ft a=some c->lO i cx a c:=by
 intro a c d;unfold Ou at d;cases k:ft a with
 |none=>rw[k]at d;simp at d
 |some o=>
  rw[k]at d;simp only[ar]at d;subst d;intro n v q e f g j b l t u m s p;have b: @Option.rec T (λ_=>aa (T×H)) (o n q e f) (λg=>some (g,f)) (Ao h a e)=some (g,j):=b;cases hE:Ao h a e with
  |none=>rw[hE]at b;exact z a o k n v q e f g j b l t u m s p
  |some r=>
   rw[hE]at b;have b:some (r,f)=some (g,j):=b;simp only[ar,ay]at b;obtain⟨rfl,rfl⟩:=b;obtain⟨A,w,x⟩:=LR hE;exact y.mem a A w e r x l t u m f s p
def wL(b:uI)(ft:aj->aa pJ)(a:Nat):iL:=Hx (Ou b ft) a
def Hw{a:ai}{cx:Ctx}{e:uI}{ft:aj->aa pJ}(f:xD a cx e)(g:∀b c,ft b=some c->lO a cx b c)(d:Nat):mX a cx (wL e ft d):=Ar (Ot f g) d
def xD.next{c:ai}{cx:Ctx}{f:uI}{ft:aj->aa pJ}(n:∀a g,ft a=some g->lO c cx a g){i:Nat}{a:Nat}{d:List (List T×T)}(h:xD c cx ((a,d)::f)){b:List T}{e:T}
 (hl:mp b=true) (m:wL ((a,d)::f) ft i a b ⟨0,0,[]⟩=some (e,⟨0,0,[]⟩)):xD c cx ((a,(b,e)::d)::f):=
 .ent (xR (lx b hl) λj p q k o l=>Hw h n i a b ⟨0,0,[]⟩ e ⟨0,0,[]⟩ m j p q k o l) h
def put(a:fN)(b:Nat)(d:T):fN:=(lr a b d).getD a
def oG(e:fN)(a:Nat)(d:T):lr e a d=some (put e a d):=by
 have:∃c,lr e a d=some c:=by
  induction e with
  |nil=>exact⟨_,rfl⟩
  |cons b h c i=>
   obtain⟨f,ht⟩:=i;cases g:Nat.beq b a with
   |true=>exact⟨.cons b d c,by show @Bool.rec (λ_=>aa fN) _ _ (Nat.beq b a)=_;rw[g]⟩
   |false=>exact⟨.cons b h f,by show @Bool.rec (λ_=>aa fN) (dM (lr c a d) λf=>some (.cons b h f)) _ (Nat.beq b a)=_;rw[g,ht];rfl⟩
 obtain⟨c,hr⟩:=this;rw[hr];unfold put;rw[hr];rfl
def kY(b:Nat)(d:T)(c:fN)(a:Nat):dH (.cons b d c) a=if b=a then some d else dH c a:=by
 show @Bool.rec (λ_=>aa T) (dH c a) (some d) (Nat.beq b a)=_;cases e:Nat.beq b a with
 |true=>rw[aq (aC e)]
 |false=>rw[ao (cK e)]
def DG(a:Nat):dH .nil a=none:=rfl
def Ox(g:fN)(b:Nat)(c:T)(j:Nat):dH (put g b c) j=if b=j then some c else dH g j:=by
 have a:=oG g b c;generalize put g b c=f at a;induction g generalizing f with
 |nil=>
  have a:some (fN.cons b c .nil)=some f:=a;simp only[ar]at a;subst a;rw[kY,DG]
 |cons e k d l=>
  have a: @Bool.rec (λ_=>aa fN) (dM (lr d b c) λd=>some (.cons e k d)) (some (.cons e c d)) (Nat.beq e b)=some f:=a;cases h:Nat.beq e b with
  |true=>
   rw[h]at a;have a:some (fN.cons e c d)=some f:=a;simp only[ar]at a;subst a;have:=aC h;subst this;simp only[kY];split<;>rfl
  |false=>
   rw[h]at a;have a:(dM (lr d b c) λd=>some (fN.cons e k d))=some f:=a;rw[oG]at a;simp only[dR,ar]at a;subst a;have:=cK h;rw[kY,kY,l _ (oG _ _ _)];split
   ·rename_i i;subst i;rw[ao (λi=>this i.symm)]
   ·rfl
structure iB where
 n:Env->H->Prop
 x:Nat->Env->H->Prop
 r:Env->H->Prop
def W(f:Out)(c:iB):Prop:=∃d a b,f=some (d,a,b)/\Ex.casesOn d (c.n a b) (λe=>c.x e a b) (c.r a b)
@[simp] theorem CF (a:Env) (b:H) (d:iB):W (some (.normal,a,b)) d=d.n a b:=by
 apply propext;constructor
 ·rintro⟨h,f,g,e,c⟩;simp only[ar,ay]at e;obtain⟨rfl,rfl,rfl⟩:=e;exact c
 ·exact λc=>⟨_,a,b,rfl,c⟩
@[simp] theorem CG (f:Nat) (a:Env) (b:H) (d:iB):W (some (.exit f,a,b)) d=d.x f a b:=by
 apply propext;constructor
 ·rintro⟨i,g,h,e,c⟩;simp only[ar,ay]at e;obtain⟨rfl,rfl,rfl⟩:=e;exact c
 ·exact λc=>⟨_,a,b,rfl,c⟩
@[simp] theorem TF (a:Env) (b:H) (d:iB):W (some (.ret,a,b)) d=d.r a b:=by
 apply propext;constructor
 ·rintro⟨h,f,g,e,c⟩;simp only[ar,ay]at e;obtain⟨rfl,rfl,rfl⟩:=e;exact c
 ·exact λc=>⟨_,a,b,rfl,c⟩
def PL(a:iB):¬W none a:=by rintro⟨e,c,d,b,_⟩;simp at b
def Ev(b:Env->H->Out)(a:iB):iB:=⟨λc d=>W (b c d) a,a.x,a.r⟩
def qV(id:Nat)(a:iB):iB:=⟨a.n,λd b c=>if d=id then a.n b c else a.x d b c,a.r⟩
def xi(b:Env->H->Prop)(a:iB):iB:=⟨b,a.x,a.r⟩
@[simp] theorem acG (b:Env->H->Out) (a:iB) (c:Env) (d:H):(Ev b a).n c d=W (b c d) a:=rfl
@[simp] theorem UP (e:Env->H->Out) (a:iB) (d:Nat) (b:Env) (c:H):(Ev e a).x d b c=a.x d b c:=rfl
@[simp] theorem acF (d:Env->H->Out) (a:iB) (b:Env) (c:H):(Ev d a).r b c=a.r b c:=rfl
@[simp] theorem Zq (id:Nat) (a:iB) (b:Env) (c:H):(qV id a).n b c=a.n b c:=rfl
@[simp] theorem ye (id:Nat) (a:iB) (d:Nat) (b:Env) (c:H):(qV id a).x d b c=if d=id then a.n b c else a.x d b c:=rfl
@[simp] theorem Zp (id:Nat) (a:iB) (b:Env) (c:H):(qV id a).r b c=a.r b c:=rfl
@[simp] theorem acJ (a:Env->H->Prop) (d:iB) (b:Env) (c:H):(xi a d).n b c=a b c:=rfl
@[simp] theorem acH (e:Env->H->Prop) (a:iB) (d:Nat) (b:Env) (c:H):(xi e a).x d b c=a.x d b c:=rfl
@[simp] theorem acI (d:Env->H->Prop) (a:iB) (b:Env) (c:H):(xi d a).r b c=a.r b c:=rfl
@[simp] theorem aah (c e:Env->H->Out) (a:Env) (b:H) (d:iB):W (Bj c e a b) d=W (c a b) (Ev e d):=by
 apply propext;unfold Bj;cases k:c a b with
 |none=>constructor<;>(rintro⟨f,a,b,g,_⟩;simp[dM]at g)
 |some h=>
  obtain⟨f,i,j⟩:=h;simp only[dR,kw];cases f<;>simp
@[simp] theorem RX (id:Nat) (g:Env->H->Out) (b:Env) (d:H) (a:iB):W (xx id g b d) a=W (g b d) (qV id a):=by
 apply propext;unfold xx;cases l:g b d with
 |none=>constructor<;>(rintro⟨i,b,d,j,_⟩;simp[dM]at j)
 |some k=>
  obtain⟨i,c,e⟩:=k;simp only[dR,kw];cases i with
  |normal=>simp
  |ret=>simp
  |exit f=>
   show W (@Bool.rec (λ_=>Out) (some (.exit f,c,e)) (some (.normal,c,e)) (Nat.beq f id)) a↔_;cases h:Nat.beq f id with
   |true=>
    show W (some (.normal,c,e)) a↔_;rw[CF,CG,ye,aq (aC h)]
   |false=>
    show W (some (.exit f,c,e)) a↔_;rw[CG,CG,ye,ao (cK h)]
def OY(d:aa T)(a b:Prop):Prop:=match d with
 |some (.bool c)=>if c=true then a else b
 |_=>False
def PN{σ:Type}{g:Env->H->Out}(I:σ->Env->H->Prop)(m:σ->Nat){i:iB}
 (r:∀c a b,I c a b->W (g a b) (xi (λe f=>∃h,m h<m c/\I h e f) i)):
 ∀d c a b,m c<d->I c a b->W (nL g d a b) i:=by
 intro d;induction d with
 |zero=>intro c a b t;omega
 |succ d u=>
  intro c a b t p;obtain⟨k,n,o,s,j⟩:=r c a b p;show W (dM (g a b) λv=>three v λk e f=> @Ex.rec (λ_=>Out) (nL g d e f) (λl=>some (.exit l,e,f)) (some (.ret,e,f)) k) i;rw[s];simp only[dR,kw];cases k with
  |normal=>
   obtain⟨h,w,q⟩:=j;exact u h n o dq q
  |exit l=>exact(CG _ _ _ _).mpr j
  |ret=>exact(TF _ _ _).mpr j
section
variable {P:ai}{cx:Ctx}
end
end
noncomputable section
@[simp] theorem aa9 (c:iL) (d a:H) (b:T):fin c d (some (.val b a))=some (b,a):=rfl
@[simp] theorem ZV (b:iL) (d:H) (c:aj) (a:List T):fin b d (some (.call c a))=b c a d:=rfl
@[simp] theorem xH (a:H) (b:T):val a (some b)=some (.val b a):=rfl
@[simp] theorem zO (a:H) (b:T):jp (some (b,a))=some (.val b a):=rfl
def Ri(a b:List Nat):Tr a b=decide (a=b):=by rw[Fa,bD];simp
def Rj(a b:Int):Qg a b=decide (a=b):=by rw[xp];rfl
def v8(a b:Int):J7 a b=decide (a<b):=xh a b
@[simp] theorem qW (a:ak):CM a a=true:=by cases a<;>rfl
@[simp] theorem Va (d a:ak) (b c:Int):rg (.int d) (.int a b) (.int a c)=some (decide (b=c)):=by
 show fT (CM a a) (some (Qg b c))=_;rw[qW,Rj];rfl
@[simp] theorem U9 (a b:List Nat):rg .str (.str a) (.str b)=some (decide (a=b)):=by
 show some (Tr a b)=_;rw[Ri]
@[simp] theorem Ts (a b:Bool):rg .bool (.bool a) (.bool b)=some (a==b):=by cases a<;>cases b<;>rfl
@[simp] theorem WQ (a:ak) (b c:Int):binop .lss (.int a b) (.int a c)=some (.bool (decide (b<c))):=by
 show fT (CM a a) (wz (J7 b c))=_;rw[qW,v8,ij,qO]
@[simp] theorem WS (a:ak) (b c:Int):binop .leq (.int a b) (.int a c)=some (.bool (decide (b<=c))):=by
 show fT (CM a a) (wz (!J7 c b))=_;rw[qW,v8,ij,qO];congr 2;rw[bD];simp
@[simp] theorem WT (a:ak) (b c:Int):binop .gtr (.int a b) (.int a c)=some (.bool (decide (c<b))):=by
 show fT (CM a a) (wz (J7 c b))=_;rw[qW,v8,ij,qO]
@[simp] theorem WU (a:ak) (b c:Int):binop .geq (.int a b) (.int a c)=some (.bool (decide (c<=b))):=by
 show fT (CM a a) (wz (!J7 b c))=_;rw[qW,v8,ij,qO];congr 2;rw[bD];simp
def ju{a:Int}(d: -9223372036854775808<=a)(c:a<9223372036854775808):Jx .i64 a=a:=by
 cases a with
 |ofNat b=>
  show @Bool.rec (λ_=>Int) _ _ (Nat.ble b 9223372036854775807)=_;rw[bW (by simp at c;omega)]
 |negSucc b=>
  show @Bool.rec (λ_=>Int) _ _ (Nat.ble b 9223372036854775807)=_;rw[bW dq]
def FY{a:Int}(b: -9223372036854775808<=a)(c:a<9223372036854775808):pi .i64 a=some (.int .i64 a):=by
 unfold pi;rw[ju b c,nY]
def il{a b:Int}(c: -9223372036854775808<=a+b)(d:a+b<9223372036854775808):binop .add (.int .i64 a) (.int .i64 b)=some (.int .i64 (a+b)):=FY c d
def kP{a b:Int}(c: -9223372036854775808<=a-b)(d:a-b<9223372036854775808):binop .sub (.int .i64 a) (.int .i64 b)=some (.int .i64 (a-b)):=FY c d
def Jm{a b:Nat}(c:a<b)(d:b<9223372036854775808):binop .add (.int .i64 (a:Int)) (.int .i64 1)=some (.int .i64 ((a+1:Nat):Int)):=by
 rw[il dq dq];rfl
@[simp] theorem Xf (a:Bool):unop .not (.bool a)=some (.bool !a):=by cases a<;>rfl
def Oz{b:Type}(a:List b):kC a=a.length:=jt a
@[simp] theorem Wr (b:H) (a:List T) (c:Bool):acD b (.dF a c)=some (.val (.int .i64 (a.length:Nat)) b):=by
 show val b (dM (gh (kC a)) λd=>some (.int .i64 (.ofNat d)))=_;rw[Oz,iw];rfl
@[simp] theorem WI (a:List Nat):(T.str a).cells=[.str a]:=id rfl
@[simp] theorem WK (a:ak) (b:Int):(T.int a b).cells=[.int a b]:=id rfl
@[simp] theorem Vu (a:Bool):(T.bool a).cells=[.bool a]:=id rfl
@[simp] theorem WM (a:List T):(T.agg a).cells=a:=id rfl
@[simp] theorem uv (a b:Nat):Nat.beq a b=decide (a=b):=by
 rw[bD];simp
@[simp] theorem KA (a b:Nat):Nat.ble a b=decide (a<=b):=by
 rw[bD];simp
@[simp] theorem RP (a b:Nat):Nat.blt a b=decide (a<b):=by
 rw[bD,aG];simp
@[simp] theorem ZG (a:List Nat):(T.str a).gJ=true:=id rfl
@[simp] theorem ZI (a:ak) (b:Int):(T.int a b).gJ=true:=id rfl
@[simp] theorem Wx (a:Bool):(T.bool a).gJ=true:=id rfl
@[simp] theorem Ww (a:List T) (b:Bool):(T.dF a b).gJ=true:=id rfl
@[simp] theorem ZK (a:List T):(T.agg a).gJ=true:=id rfl
@[simp] theorem ZW (off:Nat) (b:H) (a:List T):faV off b (.ji a)=dM (jJ off a) λc=>some (lh.val (.ji c) b):=rfl
@[simp] theorem Wq (c:H) (b:Ty) (a:List T):c.load b (.ji a)=j2 b a:=rfl
@[simp] theorem abf {b:Type} (a:List b):jJ 0 a=some a:=rfl
@[simp] theorem abe {c:Type} (b:Nat) (d:c) (a:List c):jJ (b+1) (d::a)=jJ b a:=rfl
@[simp] theorem aaE {b:Type} (a:List b):takeN 0 a=some []:=rfl
@[simp] theorem aaD {d:Type} (b:Nat) (c:d) (a:List d):takeN (b+1) (c::a)=dM (takeN b a) λe=>some (c::e):=rfl
@[simp] theorem WB (a:H) (c:List T) (b:Nat):exV a (.tuple c) b=val a (lM c b):=rfl
end
noncomputable section
open Classical in
@[simp] theorem DF:mp []=true:=by unfold mp;rfl
@[simp] theorem BO (a:T) (b:List T):mp (a::b)=(mG a&&mp b):=by rw[mp]
@[simp] theorem Gx (a:ak) (b:Int):mG (.int a b)=true:=by unfold mG;rfl
@[simp] theorem Wp (a:Bool):mG (.bool a)=true:=by unfold mG;rfl
@[simp] theorem Gw (a:List Nat):mG (.str a)=true:=by unfold mG;rfl
@[simp] theorem Wn:mG .fR=true:=by unfold mG;rfl
@[simp] theorem Wo (a:List T) (b:Bool):mG (.dF a b)=mp a:=by rw[mG]
@[simp] theorem Gy (a:List T):mG (.agg a)=mp a:=by rw[mG]
def LD{d:Type}(c:d->T)(e:∀b,mG (c b)=true):∀a:List d,mp (a.map c)=true:=by
 intro a;induction a with
 |nil=>simp
 |cons b a f=>simp[e b,f]
def SL(b:T)(a:List T):Prop:=(b= .fR/\a=[])\/∃c,b= .dF a c
def sl(a:List T):T:=match a with| []=> .fR|x::b=> .dF (x::b) false
def RY(a:List T)(b:Bool):SL (.dF a b) a:= .inr ⟨b,rfl⟩
def SL.jg{b:T}{a:List T}(d:SL b a)(c:H):c.jg b=some a:=by
 rcases d with⟨rfl,rfl⟩|⟨e,rfl⟩<;>rfl
def SL.cells{a:T}{b:List T}(c:SL a b):a.cells=[a]:=by
 rcases c with⟨rfl,rfl⟩|⟨d,rfl⟩<;>rfl
def SL.gJ{a:T}{b:List T}(c:SL a b):a.gJ=true:=by
 rcases c with⟨rfl,rfl⟩|⟨d,rfl⟩<;>rfl
end
noncomputable section
def Hp(a:H):Prop:=a.fc.length=a.size
def R5{a:H}(b:Hp a)(c:iN):Hp (a.cons c):=by unfold Hp at*;simp[H.cons,b]
@[simp] theorem size_cons (a:H) (b:iN):(a.cons b).size=a.size+1:=rfl
def dT(a:H)(b:Nat)(c:iN):H:=(a.put b c).getD a
def F1{b:H}(i:Hp b){a:Nat}(h:a<b.size)(e:iN):b.put a e=some (dT b a e):=by
 have:∃d,b.put a e=some d:=by
  obtain⟨c,f,j⟩:=b;unfold Hp at i;simp only at i h;show∃d,(fT (Nat.blt a c) (dM (kr j (Nat.sub (Nat.sub c 1) a) e) λg=> @Bool.rec (λ_=>aa H) (some ⟨c,f,g⟩) (some ⟨c,a,g⟩) (Nat.blt a f)))=some d;rw[show Nat.blt a c=true by rw[aG];exact h,ij,kt,aq (by show c-1-a<_;omega),dR];cases Nat.blt a f<;>exact⟨_,rfl⟩
 obtain⟨d,k⟩:=this;unfold dT;rw[k];rfl
def Ij{b:H}(i:Hp b){a:Nat}(g:a<b.size)(d:iN):Hp (dT b a d)/\(dT b a d).size=b.size/\∀e,(dT b a d).get e=if e=a then some d else b.get e:=by
 have f:=F1 i g d;generalize dT b a d=j at*
 obtain⟨c,l,m⟩:=b;unfold Hp at*
 simp only at i g;have f:(fT (Nat.blt a c) (dM (kr m (Nat.sub (Nat.sub c 1) a) d) λn=> @Bool.rec (λ_=>aa H) (some ⟨c,l,n⟩) (some ⟨c,a,n⟩) (Nat.blt a l)))=some j:=f;rw[show Nat.blt a c=true by rw[aG];exact g,ij,kt,aq (by show c-1-a<_;omega),dR]at f;have q:j.size=c/\j.fc=m.set (c-1-a) d:=by
  cases hl:Nat.blt a l<;>rw[hl]at f<;>simp only[ar]at f<;>subst f<;>exact⟨rfl,rfl⟩
 obtain⟨k,p⟩:=q;refine⟨by rw[k,p];simp[i],k,λe=> ?_⟩;rw[H.get_eq,H.get_eq,k,p];by_cases o:e=a
 ·subst o;rw[aq g,aq rfl];simp[bQ,i];omega
 ·rw[ao o];simp only;by_cases h:e<c
  ·rw[aq h,aq h,cC dq]
  ·rw[ao h,ao h]
def get_put{b:H}(f:Hp b){c:Nat}(e:c<b.size)(d:iN)(a:Nat):(dT b c d).get a=if a=c then some d else b.get a:=(Ij f e d).2.2 a
@[simp] theorem abb (off:Nat) (c:H) (a b d e:Nat):faV off c (.ptr a b d e)=some (.val (.ptr a b d (e+off)) c):=by
 show(dM (gh (Nat.add e off)) λf=>some (lh.val (.ptr a b d f) c))=_;rw[iw];rfl
@[simp] theorem On (a:H) (b:Nat->T) (c:iN):jp (a.new b c)=some (.val (b a.size) (a.cons c)):=by rw[H.kz];rfl
def IJ{a:H}(b:Hp a)(g d:T):tI 0 0 g d a=some (d,⟨0,0,[]⟩):=by
 obtain⟨c,f,e⟩:=a;unfold Hp at b;simp only at b;unfold tI;simp only;rw[show Nat.sub c 0=c from rfl,lF,aq dq,dR,show Nat.ble 0 f=true by simp];simp[show e.drop c=[]by simp[b]]
def GD{a:H}(e:Hp a){b c:T}(d:iX a 0 b=some c):BR false 0 0 b a=some (c,⟨0,0,[]⟩):=by
 show @Option.rec T (λ_=>aa (T×H)) (mO 0 b a) (λc=>tI 0 0 b c a) (iX a 0 b)=_;rw[d];exact IJ e b c
inductive R6:T->Prop where
 |bool (b:Bool):R6 (.bool b)
 |int (k:ak) (n:Int):R6 (.int k n)
 |str (s:List Nat):R6 (.str s)
 |dF (es:List T) (f:Bool):R6 (.dF es f)
 |fR:R6 .fR
def R6.freeze{a:T}(d:R6 a)(c:H)(e b:Nat):freeze c e (b+1) a=some a:=by cases d<;>rfl
def rR{c:T->aa T}{a:List T}(d:∀b∈a,c b=some b):fD c a=some a:=by
 induction a with
 |nil=>rfl
 |cons b h f=>
  rw[jr,d b dt,f λg e=>d g (by simp[e])];rfl
def aav(b:T):Prop:=R6 b\/∃a,b= .agg a/\∀c∈a,R6 c
def aav.freeze{e:T}(d:aav e)(b:H)(c a:Nat):freeze b c (a+2) e=some e:=by
 rcases d with d|⟨f,rfl,g⟩
 ·exact d.freeze b c (a+1)
 ·show(dM (fD (Go.TI.freeze b c (a+1)) f) λi=>some (T.agg i))=_;rw[rR λj h=>(g j h).freeze b c a];rfl
def zk(b:List (Nat×Nat))(c d:Nat):Bool:=b.any λa=>a.1==c&&a.2==d
def kZ(a:List (Nat×Nat))(b:Nat):Bool:=a.any λc=>c.1==b
def DS{a:List (Nat×Nat)}{b d:Nat}(h:zk a b d=true):kZ a b=true:=by
 unfold zk at h;unfold kZ;rw[List.any_eq_true]at h|-;obtain⟨f,c,h⟩:=h;exact⟨f,c,by simp at h;simp[h.1]⟩
def RA(g:List (Nat×Nat))(c:af Oper):Bool:=
 let f:=Jn c.toList []
 let d:=c.toList.zipIdx
 d.all λa=>d.all λb=> !Nat.blt b.2 a.2|| !((rS b.1.op&&ik a.1.op)||(ik b.1.op&&(rS a.1.op||ik a.1.op)))||(f.getD a.2 0).testBit b.2||zk g b.2 a.2
def Cp{j:List (Nat×Nat)}{g:af Oper}(k:RA j g=true){b c:Nat}{f d:Oper}(p:g[b]? =some f)(r:g[c]? =some d)(q:b<c)
 (s:(rS f.op=true/\ik d.op=true)\/(ik f.op=true/\(rS d.op=true\/ik d.op=true))):jx g b c=true\/zk j b c=true:=by
 unfold RA at k;have m:=List.all_eq_true.1 k (d,c) (mem_zipIdx r);have a:=List.all_eq_true.1 m (f,b) (mem_zipIdx p);have o:Nat.blt b c=true:=by rw[aG];exact q
 simp only[o,cI,Bool.false_or,bP,bL]at a;rcases a with(a|a)|a
 ·exfalso;rcases s with⟨l,i⟩|⟨l,i|i⟩<;>simp[l,i]at a
 ·exact .inl a
 ·exact .inr a
def mh(c:List (Nat×Nat))(f b:Nat)(d:List (Nat×H×H)):Prop:=∀a∈d,zk c a.1 f=true->eJ a.2.1 a.2.2 b=true
def vh(b:List (Nat×Nat))(d:Nat)(h c:H)(f:List (Nat×Nat)):Prop:=∀a∈f,zk b a.1 d=true->eJ h c a.2=true
@[simp] theorem UL (b:List (Nat×Nat)) (c a:Nat):mh b c a []=True:=by simp[mh]
@[simp] theorem Tg (b:List (Nat×Nat)) (c a g:Nat) (h f:H) (d:List (Nat×H×H)):mh b c a ((g,h,f)::d)=((zk b g c=true->eJ h f a=true)/\mh b c a d):=by simp[mh]
@[simp] theorem WC (a:List (Nat×Nat)) (c:Nat) (h b:H):vh a c h b []=True:=by simp[vh]
@[simp] theorem Vc (a:List (Nat×Nat)) (c f d:Nat) (h b:H) (g:List (Nat×Nat)):vh a c h b ((f,d)::g)=((zk a f c=true->eJ h b d=true)/\vh a c h b g):=by simp[vh]
open Classical in
def wx(cx:Ctx)(cf:iL)(mask:Nat)(g:af Oper)(b:List (Nat×Nat)):List Oper->Nat->List (Nat×Nat)->List (Nat×H×H)->Env->H->aa (Env×H)
 | [],_,_,_,e,h=>some (e,h)
 |o::k,a,f,c,e,h=>dM (kV cx cf mask g e h o) λm=>two m λj d=>
  dM (j9 g mask e o.guard) λr=>
   if r=true then
    if ik o.op=true then
     if vh b a h d f/\(∀p l q i,o.op= .store p l q->dM (fG cx mask e l) dO=some i->mh b a i c)then
      wx cx cf mask g b k (a+1) f (if kZ b a=true then(a,h,d)::c else c) j d else none
    else match fU cx mask e h o.op with
     |none=>wx cx cf mask g b k (a+1) f c j d
     |some i=>if mh b a i c then wx cx cf mask g b k (a+1) (if kZ b a=true then(a,i)::f else f) c j d else none
   else wx cx cf mask g b k (a+1) f c j d
section
variable {cx:Ctx}{cf:iL}{n mask:Nat}
def FU{s:List (Nat×Nat)}{f:af Oper}(K:RA s f=true):∀(l:List Oper) (b:Nat) (v:List (Nat×Nat)) (r:List (Nat×H×H)) (g:Seen) (e:Env) (h:H) (p:Env×H),(∀q,l[q]? =f[b+q]?)->
 (∀a∈g.lU,a.1<b/\(∃d,f[a.1]? =some d/\rS d.op=true)/\(kZ s a.1=true->a∈v))->
 (∀a∈g.kF,a.1<b/\(∃d,f[a.1]? =some d/\ik d.op=true)/\(kZ s a.1=true->a∈r))->
 wx cx cf mask f s l b v r e h=some p->jN cx cf mask f l b g e h=some p:=by
 intro l;induction l with
 |nil=>intro b v r g e h p _ _ _ c;exact c
 |cons d l D=>
  intro b v r g e h p hl G F c;have A:f[b]? =some d:=by have:=hl 0;simpa using this.symm
  have B:∀q,l[q]? =f[b+1+q]? :=λq=>by
   have:=hl (q+1);simp only[dc]at this;rw[this];congr 1;omega
  show(dM (kV cx cf mask f e h d) λa=>two a λm i=>
   dM (j9 f mask e d.guard) λX=> @Bool.rec (λ_=>aa (Env×H)) (jN cx cf mask f l (b+1) g m i)
    (@Bool.rec (λ_=>aa (Env×H))
      (@Option.rec Nat (λ_=>aa (Env×H)) (jN cx cf mask f l (b+1) g m i)
        (λj=>fT (nI f b j g.kF) (jN cx cf mask f l (b+1) ⟨(b,j)::g.lU,g.kF⟩ m i)) (fU cx mask e h d.op))
      (fT (wI f b h i g.lU) (fT (p9 cx mask f b e g.kF d.op) (jN cx cf mask f l (b+1) ⟨g.lU,(b,h,i)::g.kF⟩ m i))) (ik d.op)) X)=some p
  unfold wx at c;obtain⟨⟨m,i⟩,S,c⟩:=dD.1 c;simp only[kf]at c;obtain⟨W,T,c⟩:=dD.1 c;rw[S,dR,kf,T,dR];have C:∀a∈g.lU,a.1<b+1/\(∃d,f[a.1]? =some d/\rS d.op=true)/\(kZ s a.1=true->a∈v):=λa hp=>⟨by have:=(G a hp).1;omega,(G a hp).2⟩;have z:∀a∈g.kF,a.1<b+1/\(∃d,f[a.1]? =some d/\ik d.op=true)/\(kZ s a.1=true->a∈r):=λa hp=>⟨by have:=(F a hp).1;omega,(F a hp).2⟩;have lk:∀j,(rS d.op=true\/ik d.op=true)->mh s b j r->nI f b j g.kF=true:=by
   intro j Q w;unfold nI;rw[yA,cF];intro a hp;obtain⟨t,⟨U,u,o⟩,J⟩:=F a hp;show @Bool.rec (λ_=>Bool) (jx f a.1 b) true (eJ a.2.1 a.2.2 j)=true;rcases Cp K u A t (.inr ⟨o,Q⟩)with I|y
   ·rw[I];cases eJ a.2.1 a.2.2 j<;>rfl
   ·rw[w a (J (DS y)) y]
  cases W with
  |false=>simp only[cd,br]at c;exact D (b+1) v r g m i p B C z c
  |true=>
   simp only[bo]at c;cases x:ik d.op with
   |true=>
    rw[x]at c;simp only[bo]at c;split at c
    ·rename_i w;have N:wI f b h i g.lU=true:=by
      unfold wI;rw[yA,cF];intro a hp;obtain⟨t,⟨U,u,o⟩,J⟩:=G a hp;show @Bool.rec (λ_=>Bool) (jx f a.1 b) true (eJ h i a.2)=true;rcases Cp K u A t (.inl ⟨o,x⟩)with I|y
      ·rw[I];cases eJ h i a.2<;>rfl
      ·rw[w.1 a (J (DS y)) y]
     have O:p9 cx mask f b e g.kF d.op=true:=by
      unfold p9;split
      ·rename_i q M V R;cases P:dM (fG cx mask e M) dO with
       |none=>rfl
       |some j=>exact lk j (.inr x) (w.2 q M V j R P)
      ·rfl
     simp only[N,O,ij];refine D (b+1) _ _ _ m i p B C (λa hp=> ?_) c;rcases List.mem_cons.1 hp with rfl|hp
     ·refine⟨dt,⟨d,A,x⟩,λk=> ?_⟩;simp only at k;rw[aq k];exact df ..
     ·obtain⟨t,u,o⟩:=z a hp;refine⟨t,u,λk=> ?_⟩;split
      ·exact cz _ (o k)
      ·exact o k
    ·simp at c
   |false=>
    rw[x]at c;simp only[cd,br]at c;simp only;cases E:fU cx mask e h d.op with
    |none=>rw[E]at c;exact D (b+1) v r g m i p B C z c
    |some j=>
     rw[E]at c;simp only at c;split at c
     ·rename_i w;have L:=Gz E;simp only[lk j (.inl L) w,ij];refine D (b+1) _ _ _ m i p B (λa hp=> ?_) z c;rcases List.mem_cons.1 hp with rfl|hp
      ·refine⟨dt,⟨d,A,L⟩,λk=> ?_⟩;simp only at k;rw[aq k];exact df ..
      ·obtain⟨t,u,o⟩:=C a hp;refine⟨t,u,λk=> ?_⟩;split
       ·exact cz _ (o k)
       ·exact o k
     ·simp at c
abbrev DL:=List (Nat×List (Nat×Nat))
def MW(cx:Ctx)(cf:iL)(mask:Nat)(dl:DL)(id:Nat)(a:af Oper)(e:Env)(h:H):Out:=
 match dl.lookup id with
 |none=>dM (ke cx cf mask a a.toList ⟨e.vars,.nil⟩ h) λd=>two d λb c=>some (.normal,⟨b.vars,.nil⟩,c)
 |some f=>dM (wx cx cf mask a f a.toList 0 [] [] ⟨e.vars,.nil⟩ h) λd=>two d λb c=>some (.normal,⟨b.vars,.nil⟩,c)
def jm(cx:Ctx)(cf:iL)(b mask:Nat)(dl:DL):Code->Env->H->Out
 | .skip=>λe h=>some (.normal,e,h)
 | .region id f _=>MW cx cf mask dl id f
 | .seq c a=>Bj (jm cx cf b mask dl c) (jm cx cf b mask dl a)
 | .cond d c a=>Ho cx mask d (jm cx cf b mask dl c) (jm cx cf b mask dl a)
 | .block id a=>xx id (jm cx cf b mask dl a)
 | .loop a=>nL (jm cx cf b mask dl a) b
 | .exit id=>λe h=>some (.exit id,e,h)
 | .ret=>λe h=>some (.ret,e,h)
 |_=>λ_ _=>none
def mt(dl:DL):Code->Bool
 | .region id d c=>(match dl.lookup id with|none=> !c||JH d|some f=>c&&RA f d)
 | .seq a b=>mt dl a&&mt dl b
 | .cond _ a b=>mt dl a&&mt dl b
 | .block _ a=>mt dl a
 | .loop a=>mt dl a
 |_=>true
def pH{dl:DL}:∀(p:Code),mt dl p=true->∀e h b,jm cx cf n mask dl p e h=some b->jP cx cf n mask p e h=some b:=by
 intro p;induction p with
 |region id k A=>
  intro c e h b a;obtain⟨s,E⟩:=e;replace a:MW cx cf mask dl id k ⟨s,E⟩ h=some b:=a;unfold MW at a;simp only[mt]at c;cases hl:dl.lookup id with
  |none=>
   rw[hl]at a c;simp only at a c;cases A with
   |false=>exact a
   |true=>
    simp only[cI,Bool.false_or]at c;show(dM (jN cx cf mask k k.toList 0 ⟨[],[]⟩ ⟨s,.nil⟩ h) λb=>two b λf g=>some (Ex.normal,(⟨f.vars,.nil⟩:Env),g))=some b;rw[Ea c k.toList 0 ⟨[],[]⟩ ⟨s,.nil⟩ h (λy=>by simp) (λm i=>by simp at i) (λm i=>by simp at i)];exact a
  |some G=>
   rw[hl]at a c;simp only[aB]at a c;obtain⟨rfl,c⟩:=c;obtain⟨m,i,a⟩:=dD.1 a;show(dM (jN cx cf mask k k.toList 0 ⟨[],[]⟩ ⟨s,.nil⟩ h) λb=>two b λf g=>some (Ex.normal,(⟨f.vars,.nil⟩:Env),g))=some b;rw[FU c k.toList 0 [] [] ⟨[],[]⟩ ⟨s,.nil⟩ h m (λy=>by simp) (λm i=>by simp at i) (λm i=>by simp at i) i,dR];exact a
 |seq d o w x=>
  intro c e h b a;simp only[mt,aB]at c;have a:Bj (jm cx cf n mask dl d) (jm cx cf n mask dl o) e h=some b:=a;show Bj (jP cx cf n mask d) (jP cx cf n mask o) e h=some b;unfold Bj at*
  obtain⟨⟨l,t,u⟩,q,a⟩:=dD.1 a;rw[w c.1 e h _ q,dR];simp only[kw]at*
  cases l with
  |normal=>exact x c.2 t u b a
  |exit r=>exact a
  |ret=>exact a
 |cond z d o w x=>
  intro c e h b a;simp only[mt,aB]at c;have a:Ho cx mask z (jm cx cf n mask dl d) (jm cx cf n mask dl o) e h=some b:=a;show Ho cx mask z (jP cx cf n mask d) (jP cx cf n mask o) e h=some b;unfold Ho at*
  obtain⟨F,B,a⟩:=dD.1 a;rw[B,dR];cases F<;>first|exact a|skip
  rename_i y;cases y with
  |true=>exact w c.1 e h b a
  |false=>exact x c.2 e h b a
 |block id d v=>
  intro c e h b a;simp only[mt]at c;have a:xx id (jm cx cf n mask dl d) e h=some b:=a;show xx id (jP cx cf n mask d) e h=some b;unfold xx at*
  obtain⟨m,q,a⟩:=dD.1 a;rw[v c e h _ q,dR];exact a
 |loop d v=>
  intro c e h b a;simp only[mt]at c;have D:∀j e h b,nL (jm cx cf n mask dl d) j e h=some b->nL (jP cx cf n mask d) j e h=some b:=by
   intro j;induction j with
   |zero=>intro e h b a;simp[nL]at a
   |succ j C=>
    intro e h b a;have a:(dM (jm cx cf n mask dl d e h) λb=>three b λl f g=> @Ex.rec (λ_=>Out) (nL (jm cx cf n mask dl d) j f g) (λr=>some (.exit r,f,g)) (some (.ret,f,g)) l)=some b:=a;show(dM (jP cx cf n mask d e h) λb=>three b λl f g=> @Ex.rec (λ_=>Out) (nL (jP cx cf n mask d) j f g) (λr=>some (.exit r,f,g)) (some (.ret,f,g)) l)=some b;obtain⟨⟨l,t,u⟩,q,a⟩:=dD.1 a;rw[v c e h _ q,dR];simp only[kw]at*
    cases l with
    |normal=>exact C t u b a
    |exit r=>exact a
    |ret=>exact a
  exact D n e h b a
 |_=>intro _ e h b a;first|exact a|(simp[jm]at a)
def WR(cx:Ctx)(cf:iL)(mask:Nat)(f:af Oper)(d:List Oper)(i g:fN)(h:H)(c:fN->H->Prop):Prop:=
 ∃a b,ke cx cf mask f d ⟨i,g⟩ h=some (a,b)/\c a.vars b
def WX(c:aa (T×H))(b:T->H->Prop):Prop:=∃a h,c=some (a,h)/\b a h
@[simp] theorem yD (b:T) (h:H) (d:T->H->Prop):WX (some (b,h)) d=d b h:=by
 apply propext;constructor
 ·rintro⟨g,f,c,a⟩;simp only[ar,ay]at c;obtain⟨rfl,rfl⟩:=c;exact a
 ·exact λa=>⟨b,h,rfl,a⟩
def WD(mask:Nat)(g:aa Tmp)(f:T)(d c:fN)(a:fN->fN->Prop):Prop:=match g with
 |none=>a d c
 |some b=>if jW mask b=true then a (put d b f) c else a d (.cons b f c)
def BS(a b:Nat):(jW a b=true)=((a>>>b)&&&1=1):=by
 apply propext;show Nat.beq ((a>>>b)&&&1) 1=true↔_;exact⟨aC,λh=>by rw[h];rfl⟩
def FB(a:Tmp)(d:T)(f c:fN)(b:fN->fN->Prop):WD mask (some a) d f c b=if(mask>>>a)&&&1=1 then b (put f a d) c else b f (.cons a d c):=by
 unfold WD;simp only[BS]
def PR(i:af Oper)(b d:fN)(h:H)(f:fN->H->Prop):WR cx cf mask i [] b d h f=f b h:=by
 apply propext;constructor
 ·rintro⟨e,g,a,c⟩;have a:some ((⟨b,d⟩:Env),h)=some (e,g):=a;simp only[ar,ay]at a;obtain⟨rfl,rfl⟩:=a;exact c
 ·exact λc=>⟨⟨b,d⟩,h,rfl,c⟩
def FA(l:af Oper)(k:Oper)(j:List Oper)(b a:fN)(h:H)(q:fN->H->Prop):
 WR cx cf mask l (k::j) b a h q=WX (xI cx cf mask l ⟨b,a⟩ h k) λc d=>WD mask k.dst c b a λb a=>WR cx cf mask l j b a d q:=by
 have u:∀c d,(∃f,Env.dst mask ⟨b,a⟩ k.dst c=some f/\WR cx cf mask l j f.vars f.tmps d q)↔WD mask k.dst c b a λb a=>WR cx cf mask l j b a d q:=by
  intro c d;cases x:k.dst with
  |none=>
   constructor
   ·rintro⟨f,g,p⟩;have g:some (⟨b,a⟩:Env)=some f:=g;simp only[ar]at g;subst g;exact p
   ·exact λp=>⟨_,rfl,p⟩
  |some m=>
   have hE:Env.dst mask ⟨b,a⟩ (some m) c=some (if jW mask m=true then⟨put b m c,a⟩else⟨b,.cons m c a⟩):=by
    show @Bool.rec (λ_=>aa Env) (some ⟨b,.cons m c a⟩) (dM (lr b m c) λj=>some ⟨j,a⟩) (jW mask m)=_;rw[oG];cases jW mask m<;>rfl
   rw[hE];unfold WD;simp only[ar,exists_eq_left'];split<;>rfl
 apply propext;have v:ke cx cf mask l (k::j) ⟨b,a⟩ h=dM (kV cx cf mask l ⟨b,a⟩ h k) λw=>two w λo d=>ke cx cf mask l j o d:=rfl;unfold WR;rw[v,qd];constructor
 ·rintro⟨o,d,i,s⟩;obtain⟨⟨c,r⟩,t,i⟩:=dD.1 i;simp only[kf]at i;obtain⟨f,g,i⟩:=dD.1 i;exact⟨c,r,t,(u c r).1 ⟨f,g,o,d,i,s⟩⟩
 ·rintro⟨c,r,t,p⟩;obtain⟨f,g,o,d,i,s⟩:=(u c r).2 p;refine⟨o,d,?_,s⟩;rw[t,dR,kf,g,dR];exact i
def aam(f:af Oper)(g:aa Tmp)(i:Op)(m:ab)(l:String)(j:af Edge)(d:List Oper)(b a:fN)(h:H)(c:fN->H->Prop):
 WR cx cf mask f (⟨g,i,m,l,j,none⟩::d) b a h c=WX (fin cf h (ja i cx mask ⟨b,a⟩ h)) λo k=>WD mask g o b a λb a=>WR cx cf mask f d b a k c:=FA f _ d b a h c
def WG(c:aa Bool)(a b:Prop):Prop:=match c with|some true=>a|some false=>b|none=>False
def KG(a b:Prop):WG (some true) a b=a:=rfl
def HJ(b a:Prop):WG (some false) b a=a:=rfl
def PS(c:af Oper)(i:aa Tmp)(k:Op)(r:ab)(q:String)(o:af Edge)(f:Nat)(d:Bool)(j:List Oper)(b a:fN)(h:H)(g:fN->H->Prop):
 WR cx cf mask c (⟨i,k,r,q,o,some (f,d)⟩::j) b a h g=WG (j9 c mask ⟨b,a⟩ (some (f,d)))
  (WX (fin cf h (ja k cx mask ⟨b,a⟩ h)) λm l=>WD mask i m b a λb a=>WR cx cf mask c j b a l g)
  (WD mask i .undef b a λb a=>WR cx cf mask c j b a h g):=by
 rw[FA];show WX (dM (j9 c mask ⟨b,a⟩ (some (f,d))) λt=> @Bool.rec (λ_=>aa (T×H)) (some (.undef,h)) (fin cf h (ja k cx mask ⟨b,a⟩ h)) t) _=_;cases j9 c mask ⟨b,a⟩ (some (f,d))with
 |none=>apply propext;constructor<;>(first|(rintro⟨m,l,p,_⟩;simp[dM]at p)|exact False.elim)
 |some s=>cases s<;>simp[KG,HJ]
def Jz(a:aa T)(b:Bool):aa Bool:=dM a λa=>match a with| .bool c=>some (c==b)|_=>some false
@[simp] theorem A8 (b a:Bool):Jz (some (.bool b)) a=some (b==a):=rfl
@[simp] theorem Sb (a:Bool):Jz (some .undef) a=some false:=rfl
@[simp] theorem A9 (d:List Oper) (e:Env) (c:Nat) (f:Bool):j9 d.toArray mask e (some (c,f))=Jz (dM (dM (d[c]?) λb=>b.dst) λa=>e.get mask a) f:=by
 show(dM (dM (dM (lM d.toArray.toList c) λb=>b.dst) λa=>e.get mask a) λg=>_)=_;rw[ks];unfold Jz;simp only;cases (dM (dM (d[c]?) λb=>b.dst) λa=>e.get mask a)with
 |none=>rfl
 |some g=>cases g<;>first|rfl|(rename_i i;cases i<;>cases f<;>rfl)
@[simp] theorem AV (c b:fN) (a:Nat):Env.get mask ⟨c,b⟩ a=if(mask>>>a)&&&1=1 then dH c a else dH b a:=by
 show @Bool.rec (λ_=>aa T) (dH b a) (dH c a) (jW mask a)=_;simp only[<-BS];cases jW mask a<;>rfl
def Jr(cx:Ctx)(cf:iL)(mask:Nat)(k:af Oper)(d:List (Nat×Nat))(i:List Oper)(g:Nat)(j:List (Nat×Nat))(f:List (Nat×H×H))(m l:fN)(h:H)(c:fN->H->Prop):Prop:=
 ∃a b,wx cx cf mask k d i g j f ⟨m,l⟩ h=some (a,b)/\c a.vars b
def KF(m:af Oper)(g:List (Nat×Nat))(k:Nat)(l:List (Nat×Nat))(i:List (Nat×H×H))(b d:fN)(h:H)(f:fN->H->Prop):Jr cx cf mask m g [] k l i b d h f=f b h:=by
 apply propext;constructor
 ·rintro⟨e,j,a,c⟩;have a:some ((⟨b,d⟩:Env),h)=some (e,j):=a;simp only[ar,ay]at a;obtain⟨rfl,rfl⟩:=a;exact c
 ·exact λc=>⟨⟨b,d⟩,h,rfl,c⟩
def DK(cx:Ctx)(mask:Nat)(d:List (Nat×Nat))(a:Nat)(f:List (Nat×Nat))(b:List (Nat×H×H))(i:Op)(e:Env)(h j:H)(g:List (Nat×Nat)->List (Nat×H×H)->Prop):Prop:=
 if ik i=true then(vh d a h j f/\(∀l k m c,i= .store l k m->dM (fG cx mask e k) dO=some c->mh d a c b))/\g f (if kZ d a=true then(a,h,j)::b else b)
 else match fU cx mask e h i with
  |none=>g f b
  |some c=>mh d a c b/\g (if kZ d a=true then(a,c)::f else f) b
def HI(u:af Oper)(y:List (Nat×Nat))(j:Oper)(x:List Oper)(z:Nat)(q:List (Nat×Nat))(p:List (Nat×H×H))(b a:fN)(h:H)(A:fN->H->Prop):
 Jr cx cf mask u y (j::x) z q p b a h A=WG (j9 u mask ⟨b,a⟩ j.guard)
  (WX (fin cf h (ja j.op cx mask ⟨b,a⟩ h)) λk c=>DK cx mask y z q p j.op ⟨b,a⟩ h c λq p=>WD mask j.dst k b a λb a=>Jr cx cf mask u y x (z+1) q p b a c A)
  (WD mask j.dst .undef b a λb a=>Jr cx cf mask u y x (z+1) q p b a h A):=by
 have t:∀k c (q:List (Nat×Nat)) (p:List (Nat×H×H)),(∃i,Env.dst mask ⟨b,a⟩ j.dst k=some i/\Jr cx cf mask u y x (z+1) q p i.vars i.tmps c A)↔WD mask j.dst k b a λb a=>Jr cx cf mask u y x (z+1) q p b a c A:=by
  intro k c q p;cases J:j.dst with
  |none=>
   constructor
   ·rintro⟨i,f,r⟩;have f:some (⟨b,a⟩:Env)=some i:=f;simp only[ar]at f;subst f;exact r
   ·exact λr=>⟨_,rfl,r⟩
  |some v=>
   have hE:Env.dst mask ⟨b,a⟩ (some v) k=some (if jW mask v=true then⟨put b v k,a⟩else⟨b,.cons v k a⟩):=by
    show @Bool.rec (λ_=>aa Env) (some ⟨b,.cons v k a⟩) (dM (lr b v k) λx=>some ⟨x,a⟩) (jW mask v)=_;rw[oG];cases jW mask v<;>rfl
   rw[hE];unfold WD;simp only[ar,exists_eq_left'];split<;>rfl
 apply propext;constructor
 ·rintro⟨l,c,m,o⟩;unfold wx at m;rw[qd]at m;obtain⟨⟨k,D⟩,s,E⟩:=dD.1 m;simp only[kf]at E;obtain⟨i,f,F⟩:=dD.1 E;obtain⟨C,r,g⟩:=dD.1 F;clear m E F;unfold xI at s;rw[r,dR]at s;rw[r];cases C with
  |false=>
   replace s:some (T.undef,h)=some (k,D):=s;simp only[ar,ay]at s;obtain⟨rfl,rfl⟩:=s;simp only[cd,br]at g;exact(t _ _ q p).1 ⟨i,f,l,c,g,o⟩
  |true=>
   simp only[bo]at g;refine⟨k,D,s,?_⟩;unfold DK;split
   ·rename_i hE;rw[aq hE]at g;split at g
    ·rename_i w;exact⟨w,(t _ _ _ _).1 ⟨i,f,l,c,g,o⟩⟩
    ·simp at g
   ·rename_i hE;rw[ao hE]at g;cases B:fU cx mask ⟨b,a⟩ h j.op with
    |none=>rw[B]at g;exact(t _ _ _ _).1 ⟨i,f,l,c,g,o⟩
    |some I=>
     rw[B]at g;simp only at g;split at g
     ·rename_i w;exact⟨w,(t _ _ _ _).1 ⟨i,f,l,c,g,o⟩⟩
     ·simp at g
 ·intro d;unfold Jr wx;rw[qd];cases r:j9 u mask ⟨b,a⟩ j.guard with
  |none=>rw[r]at d;exact d.elim
  |some C=>
   rw[r]at d;have G:xI cx cf mask u ⟨b,a⟩ h j= @Bool.rec (λ_=>aa (T×H)) (some (.undef,h)) (fin cf h (ja j.op cx mask ⟨b,a⟩ h)) C:=by
    unfold xI;rw[r,dR]
   cases C with
   |false=>
    obtain⟨i,f,l,c,m,o⟩:=(t _ _ q p).2 d;refine⟨l,c,?_,o⟩;rw[G];simp only[dR,kf,f];exact m
   |true=>
    obtain⟨k,D,s,d⟩:=d;rw[G];simp only[s,dR,kf,bo];unfold DK at d;split at d
    ·rename_i hE;obtain⟨w,d⟩:=d;obtain⟨i,f,l,c,m,o⟩:=(t _ _ _ _).2 d;refine⟨l,c,?_,o⟩;rw[f,dR,aq hE,aq w];exact m
    ·rename_i hE;cases B:fU cx mask ⟨b,a⟩ h j.op with
     |none=>
      rw[B]at d;obtain⟨i,f,l,c,m,o⟩:=(t _ _ _ _).2 d;refine⟨l,c,?_,o⟩;rw[f,dR,ao hE];exact m
     |some I=>
      rw[B]at d;obtain⟨w,d⟩:=d;obtain⟨i,f,l,c,m,o⟩:=(t _ _ _ _).2 d;refine⟨l,c,?_,o⟩;rw[f,dR,ao hE];simp only;rw[aq w];exact m
def VN(l:af Oper)(f:List (Nat×Nat))(m:aa Tmp)(k:Op)(r:ab)(q:String)(p:af Edge)(j:List Oper)(g:Nat)(d:List (Nat×Nat))(c:List (Nat×H×H))(b a:fN)(h:H)(i:fN->H->Prop):
 Jr cx cf mask l f (⟨m,k,r,q,p,none⟩::j) g d c b a h i=
  WX (fin cf h (ja k cx mask ⟨b,a⟩ h)) λs o=>DK cx mask f g d c k ⟨b,a⟩ h o λd c=>WD mask m s b a λb a=>Jr cx cf mask l f j (g+1) d c b a o i:=HI l f _ j g d c b a h i
def RK(cx:Ctx)(cf:iL)(mask:Nat)(d:af Oper)(c:List Oper)(a f:fN)(h:H)(b:iB):Prop:=WR cx cf mask d c a f h λa h=>b.n ⟨a,.nil⟩ h
def XK(k:aa (T×H))(cx:Ctx)(cf:iL)(mask:Nat)(i:af Oper)(d:aa Tmp)(g:List Oper)(b a:fN)(c:iB):Prop:=WX k λj f=>WD mask d j b a λb a=>RK cx cf mask i g b a f c
def GK(j:aa Bool)(cx:Ctx)(cf:iL)(mask:Nat)(g:af Oper)(d:aa Tmp)(i:Op)(f:List Oper)(b a:fN)(h:H)(c:iB):Prop:=
 WG j (XK (fin cf h (ja i cx mask ⟨b,a⟩ h)) cx cf mask g d f b a c) (WD mask d .undef b a λb a=>RK cx cf mask g f b a h c)
@[simp] theorem adh (c:af Oper) (a d:fN) (h:H) (b:iB):RK cx cf mask c [] a d h b=b.n ⟨a,.nil⟩ h:=PR c a d h _
@[simp] theorem adP (g:af Oper) (c:aa Tmp) (f:Op) (l:ab) (k:String) (j:af Edge) (d:List Oper) (b a:fN) (h:H) (i:iB):
 RK cx cf mask g (⟨c,f,l,k,j,none⟩::d) b a h i=XK (fin cf h (ja f cx mask ⟨b,a⟩ h)) cx cf mask g c d b a i:=aam g c f l k j d b a h _
@[simp] theorem eQ (a:af Oper) (f:aa Tmp) (j:Op) (o:ab) (m:String) (l:af Edge) (g:Nat) (d:Bool) (i:List Oper) (c b:fN) (h:H) (k:iB):
 RK cx cf mask a (⟨f,j,o,m,l,some (g,d)⟩::i) c b h k=GK (j9 a mask ⟨c,b⟩ (some (g,d))) cx cf mask a f j i c b h k:=PS a f j o m l g d i c b h _
@[simp] theorem abw (g:T) (h:H) (c:af Oper) (b:List Oper) (f d:fN) (a:iB):XK (some (g,h)) cx cf mask c none b f d a=RK cx cf mask c b f d h a:=by
 unfold XK;rw[yD];rfl
@[simp] theorem abv (g:T) (h:H) (d:af Oper) (a:Tmp) (c:List Oper) (i f:fN) (b:iB):XK (some (g,h)) cx cf mask d (some a) c i f b=
 if(mask>>>a)&&&1=1 then RK cx cf mask d c (put i a g) f h b else RK cx cf mask d c i (.cons a g f) h b:=by
 unfold XK;rw[yD,FB]
@[simp] theorem abH (i:af Oper) (d:aa Tmp) (g:Op) (f:List Oper) (b a:fN) (h:H) (c:iB):GK (some true) cx cf mask i d g f b a h c=XK (fin cf h (ja g cx mask ⟨b,a⟩ h)) cx cf mask i d f b a c:=id rfl
@[simp] theorem aas (g:af Oper) (c:Tmp) (i:Op) (f:List Oper) (b a:fN) (h:H) (d:iB):GK (some false) cx cf mask g (some c) i f b a h d=if(mask>>>c)&&&1=1 then RK cx cf mask g f (put b c .undef) a h d else RK cx cf mask g f b (.cons c .undef a) h d:=by
 show WD mask (some c) .undef b a (λb a=>RK cx cf mask g f b a h d)=_;rw[FB]
def MH(cx:Ctx)(mask:Nat)(b:List (Nat×Nat))(d:Nat)(c:List (Nat×H×H))(f:Op)(e:Env):Prop:=match f with
 | .store _ g _=>(match dM (fG cx mask e g) dO with|some a=>mh b d a c|none=>True)
 |_=>True
def TB(b:List (Nat×Nat))(d:Nat)(c:List (Nat×H×H))(f:aa Nat):Prop:=match f with|some a=>mh b d a c|none=>True
@[simp] theorem VH (b:List (Nat×Nat)) (d:Nat) (c:List (Nat×H×H)) (a:Nat):TB b d c (some a)=mh b d a c:=id rfl
@[simp] theorem Be (a:List (Nat×Nat)) (c:Nat) (b:List (Nat×H×H)) (f:ab) (d g:ah) (e:Env):MH cx mask a c b (.store f d g) e=TB a c b (dM (fG cx mask e d) dO):=id rfl
@[simp] theorem V3 (b:List (Nat×Nat)) (d:Nat) (c:List (Nat×H×H)) (a:Call) (e:Env):MH cx mask b d c (.call a) e=True:=id rfl
def R8(cx:Ctx)(cf:iL)(mask:Nat)(j:af Oper)(c:List (Nat×Nat))(g:List Oper)(f:Nat)(i:List (Nat×Nat))(d:List (Nat×H×H))(a k:fN)(h:H)(b:iB):Prop:=Jr cx cf mask j c g f i d a k h λa h=>b.n ⟨a,.nil⟩ h
def P7(q:aa (T×H))(cx:Ctx)(cf:iL)(mask:Nat)(o:af Oper)(f:List (Nat×Nat))(k:aa Tmp)(m:Op)(l:List Oper)(i:Nat)(d:List (Nat×Nat))(c:List (Nat×H×H))(b a:fN)(h:H)(j:iB):Prop:=
 WX q λp g=>DK cx mask f i d c m ⟨b,a⟩ h g λd c=>WD mask k p b a λb a=>R8 cx cf mask o f l (i+1) d c b a g j
def Qj(m:T)(cx:Ctx)(cf:iL)(mask:Nat)(l:af Oper)(d:List (Nat×Nat))(f:aa Tmp)(j:List Oper)(i:Nat)(k:List (Nat×Nat))(g:List (Nat×H×H))(b a:fN)(h:H)(c:iB):Prop:=WD mask f m b a λb a=>R8 cx cf mask l d j i k g b a h c
def DLK(p:aa Nat)(m:T)(cx:Ctx)(cf:iL)(mask:Nat)(k:af Oper)(b:List (Nat×Nat))(i:aa Tmp)(j:List Oper)(a:Nat)(d:List (Nat×Nat))(c:List (Nat×H×H))(o l:fN)(h:H)(f:iB):Prop:=match p with
 |none=>Qj m cx cf mask k b i j (a+1) d c o l h f
 |some g=>mh b a g c/\Qj m cx cf mask k b i j (a+1) (if kZ b a=true then(a,g)::d else d) c o l h f
@[simp] theorem aaz (l:T) (j:af Oper) (b:List (Nat×Nat)) (c:aa Tmp) (g:List Oper) (f:Nat) (i:List (Nat×Nat)) (d:List (Nat×H×H)) (m k:fN) (h:H) (a:iB):DLK none l cx cf mask j b c g f i d m k h a=Qj l cx cf mask j b c g (f+1) i d m k h a:=id rfl
@[simp] theorem P8 (c:Nat) (m:T) (k:af Oper) (b:List (Nat×Nat)) (i:aa Tmp) (j:List Oper) (a:Nat) (f:List (Nat×Nat)) (d:List (Nat×H×H)) (o l:fN) (h:H) (g:iB):DLK (some c) m cx cf mask k b i j a f d o l h g=(mh b a c d/\Qj m cx cf mask k b i j (a+1) (if kZ b a=true then(a,c)::f else f) d o l h g):=id rfl
@[simp] theorem aay (l:T) (i:af Oper) (b:List (Nat×Nat)) (f:List Oper) (d:Nat) (g:List (Nat×Nat)) (c:List (Nat×H×H)) (k j:fN) (h:H) (a:iB):Qj l cx cf mask i b none f d g c k j h a=R8 cx cf mask i b f d g c k j h a:=id rfl
@[simp] theorem aax (l:T) (j:af Oper) (c:List (Nat×Nat)) (a:Tmp) (g:List Oper) (f:Nat) (i:List (Nat×Nat)) (d:List (Nat×H×H)) (m k:fN) (h:H) (b:iB):Qj l cx cf mask j c (some a) g f i d m k h b=
 if(mask>>>a)&&&1=1 then R8 cx cf mask j c g f i d (put m a l) k h b else R8 cx cf mask j c g f i d m (.cons a l k) h b:=by unfold Qj;rw[FB]
@[simp] theorem abO (i:af Oper) (c:List (Nat×Nat)) (f:Nat) (g:List (Nat×Nat)) (d:List (Nat×H×H)) (a j:fN) (h:H) (b:iB):R8 cx cf mask i c [] f g d a j h b=b.n ⟨a,.nil⟩ h:=KF i c f g d a j h _
@[simp] theorem adm (l:af Oper) (d:List (Nat×Nat)) (f:aa Tmp) (a:Op) (q:ab) (p:String) (o:af Edge) (j:List Oper) (i:Nat) (k:List (Nat×Nat)) (g:List (Nat×H×H)) (c b:fN) (h:H) (m:iB):
 R8 cx cf mask l d (⟨f,a,q,p,o,none⟩::j) i k g c b h m=P7 (fin cf h (ja a cx mask ⟨c,b⟩ h)) cx cf mask l d f a j i k g c b h m:=VN l d f a q p o j i k g c b h _
def DEK(q:Bool)(p:T)(d:H)(cx:Ctx)(cf:iL)(mask:Nat)(o:af Oper)(b:List (Nat×Nat))(k:aa Tmp)(m:Op)(l:List Oper)(a:Nat)(i:List (Nat×Nat))(c:List (Nat×H×H))(g f:fN)(h:H)(j:iB):Prop:=match q with
 |true=>(vh b a h d i/\MH cx mask b a c m ⟨g,f⟩)/\Qj p cx cf mask o b k l (a+1) i (if kZ b a=true then(a,h,d)::c else c) g f d j
 |false=>DLK (fU cx mask ⟨g,f⟩ h m) p cx cf mask o b k l a i c g f d j
@[simp] theorem P9 (p:T) (d:H) (o:af Oper) (b:List (Nat×Nat)) (k:aa Tmp) (m:Op) (l:List Oper) (a:Nat) (f:List (Nat×Nat)) (c:List (Nat×H×H)) (i g:fN) (h:H) (j:iB):DEK true p d cx cf mask o b k m l a f c i g h j=((vh b a h d f/\MH cx mask b a c m ⟨i,g⟩)/\Qj p cx cf mask o b k l (a+1) f (if kZ b a=true then(a,h,d)::c else c) i g d j):=id rfl
@[simp] theorem Mh (p:T) (i:H) (o:af Oper) (d:List (Nat×Nat)) (f:aa Tmp) (m:Op) (k:List Oper) (j:Nat) (l:List (Nat×Nat)) (g:List (Nat×H×H)) (b a:fN) (h:H) (c:iB):DEK false p i cx cf mask o d f m k j l g b a h c=DLK (fU cx mask ⟨b,a⟩ h m) p cx cf mask o d f k j l g b a i c:=id rfl
@[simp] theorem aaw (b:T) (r:H) (u:af Oper) (i:List (Nat×Nat)) (q:aa Tmp) (a:Op) (s:List Oper) (l:Nat) (t:List (Nat×Nat)) (j:List (Nat×H×H)) (d c:fN) (h:H) (p:iB):
 P7 (some (b,r)) cx cf mask u i q a s l t j d c h p=DEK (ik a) b r cx cf mask u i q a s l t j d c h p:=by
 unfold P7;rw[yD];unfold DK;cases hE:ik a with
 |true=>
  rw[aq rfl,P9];have:(∀m f b g,a= .store m f b->dM (fG cx mask ⟨d,c⟩ f) dO=some g->mh i l g j)↔MH cx mask i l j a ⟨d,c⟩:=by
   constructor
   ·intro k;cases a<;>first|exact trivial|skip
    rename_i m f b;rw[Be];cases o:dM (fG cx mask ⟨d,c⟩ f) dO with
    |none=>exact trivial
    |some g=>exact k m f b g rfl o
   ·intro k m f b g v o;subst v;rw[Be,o]at k;exact k
  rw[this];rfl
 |false=>
  rw[ao dt,Mh];cases fU cx mask ⟨d,c⟩ h a<;>rfl
section
variable (e:Env)(h:H)
@[simp] theorem Ti (a:ab) (c b:ah):ik (.store a c b)=true:=id rfl
@[simp] theorem Tj (b:ah) (a:af ah) (c:af ab):ik (.call ⟨.value b,a,c⟩)=true:=id rfl
@[simp] theorem Tk (a:Builtin) (b:af ah) (c:af ab):ik (.call ⟨.builtin a,b,c⟩)=(match a with| .len| .min| .max=>false|_=>true):=id rfl
@[simp] theorem UR (a:ah):ik (.move a)=false:=id rfl
@[simp] theorem Q9 (a:ah):ik (.assign a)=false:=id rfl
@[simp] theorem US (a:ab) (b:ah):ik (.load a b)=false:=id rfl
@[simp] theorem Zs (a:ah):ik (.nilCheck a)=false:=id rfl
@[simp] theorem Zw (b:ab) (c:ah) (a:Nat):ik (.fieldAddr b c a)=false:=id rfl
@[simp] theorem Zv (a:ab) (b c:ah):ik (.indexAddr a b c)=false:=id rfl
@[simp] theorem Wt (a:BinOp) (b c:ab) (d f:ah):ik (.binOp a b d f c)=false:=id rfl
@[simp] theorem Tm (a:ab):ik (.alloc a)=false:=id rfl
@[simp] theorem Tl (b:ab) (a:af (Nat×ah)):ik (.build b a)=false:=id rfl
@[simp] theorem Zz (b:ab) (n:Nat) (a:af (Nat×ah)):ik (.buildSlice b n a)=false:=id rfl
@[simp] theorem Zt (a:ab) (b c:ah):ik (.makeSlice a b c)=false:=id rfl
@[simp] theorem Zr (d:ab) (f:ah) (a b c:aa ah):ik (.slice d f a b c)=false:=id rfl
@[simp] theorem Zx (b:ah) (a:Nat):ik (.extract b a)=false:=id rfl
@[simp] theorem Zy (a b:ab) (c:ah):ik (.convert a b c)=false:=id rfl
@[simp] theorem Zu (c:Fn) (a b:af ah):ik (.makeFunc c a b)=false:=id rfl
@[simp] theorem aaV (b:ab) (a:ah):fU cx mask e h (.load b a)=dM (fG cx mask e a) dO:=id rfl
@[simp] theorem adI (b:ab) (a c:ah):fU cx mask e h (.indexAddr b a c)=dM (fG cx mask e a) dO:=id rfl
@[simp] theorem adE (f:ab) (a:ah) (b c d:aa ah):fU cx mask e h (.slice f a b c d)=dM (fG cx mask e a) dO:=id rfl
@[simp] theorem adL (b c:ab) (a:ah):fU cx mask e h (.convert b c a)=dM (fG cx mask e a) dO:=id rfl
@[simp] theorem Zo (a:ab):fU cx mask e h (.alloc a)=some h.size:=id rfl
@[simp] theorem adM (b:ab) (n:Nat) (a:af (Nat×ah)):fU cx mask e h (.buildSlice b n a)=some h.size:=id rfl
@[simp] theorem adG (a:ab) (b c:ah):fU cx mask e h (.makeSlice a b c)=some h.size:=id rfl
@[simp] theorem aaU (a:ah):fU cx mask e h (.move a)=none:=id rfl
@[simp] theorem Ws (a:ah):fU cx mask e h (.assign a)=none:=id rfl
@[simp] theorem adF (a:ah):fU cx mask e h (.nilCheck a)=none:=id rfl
@[simp] theorem adJ (b:ab) (c:ah) (a:Nat):fU cx mask e h (.fieldAddr b c a)=none:=id rfl
@[simp] theorem acE (a:BinOp) (b c:ab) (d f:ah):fU cx mask e h (.binOp a b d f c)=none:=id rfl
@[simp] theorem Zn (b:ab) (a:af (Nat×ah)):fU cx mask e h (.build b a)=none:=id rfl
@[simp] theorem adK (b:ah) (a:Nat):fU cx mask e h (.extract b a)=none:=id rfl
@[simp] theorem aaW (a:Call):fU cx mask e h (.call a)=none:=id rfl
@[simp] theorem adH (c:Fn) (a b:af ah):fU cx mask e h (.makeFunc c a b)=none:=id rfl
@[simp] theorem WO (a b c d:Nat):dO (.ptr a b c d)=some a:=id rfl
@[simp] theorem wj (a b f d:Nat) (c:Bool):dO (.arr a b f d c)=some a:=id rfl
@[simp] theorem VE (a:List T) (b:Bool):dO (.dF a b)=none:=id rfl
@[simp] theorem VF (a:List T):dO (.ji a)=none:=id rfl
@[simp] theorem WP (a:ak) (n:Int):dO (.int a n)=none:=id rfl
end
variable {dl:DL}
def QK(cx:Ctx)(cf:iL)(mask:Nat)(a:List Oper)(f:aa (List (Nat×Nat)))(c:fN)(h:H)(b:iB):Prop:=match f with
 |none=>RK cx cf mask a.toArray a c .nil h b
 |some d=>R8 cx cf mask a.toArray d a 0 [] [] c .nil h b
@[simp] theorem abF (a:List Oper) (c:fN) (h:H) (b:iB):QK cx cf mask a none c h b=RK cx cf mask a.toArray a c .nil h b:=id rfl
@[simp] theorem abD (a:List Oper) (c:List (Nat×Nat)) (d:fN) (h:H) (b:iB):QK cx cf mask a (some c) d h b=R8 cx cf mask a.toArray c a 0 [] [] d .nil h b:=id rfl
def TG(f:aa (Env×H))(g:iB):W (dM f λj=>two j λb a=>some (.normal,(⟨b.vars,.nil⟩:Env),a)) g=∃b a,f=some (b,a)/\g.n ⟨b.vars,.nil⟩ a:=by
 cases f with
 |none=>apply propext;constructor<;>(first|(rintro⟨k,a,l,c,_⟩;simp[dM]at c)|(rintro⟨k,a,c,_⟩;simp at c))
 |some i=>
  obtain⟨b,a⟩:=i;simp only[dR,kf,CF,ar,ay];apply propext;constructor
  ·exact λd=>⟨b,a,⟨rfl,rfl⟩,d⟩
  ·rintro⟨_,_,⟨rfl,rfl⟩,d⟩;exact d
@[simp] theorem adf (id:Nat) (b:List Oper) (f:Bool) (c d:fN) (h:H) (a:iB):W (jm cx cf n mask dl (.region id b.toArray f) ⟨c,d⟩ h) a=QK cx cf mask b (dl.lookup id) c h a:=by
 show W (MW cx cf mask dl id b.toArray ⟨c,d⟩ h) a=_;unfold MW;cases dl.lookup id with
 |none=>exact TG _ a
 |some g=>exact TG _ a
@[simp] theorem adc (b c:Code) (e:Env) (h:H) (a:iB):W (jm cx cf n mask dl (.seq b c) e h) a=W (jm cx cf n mask dl b e h) (Ev (jm cx cf n mask dl c) a):=aah _ _ e h a
@[simp] theorem aaj (id:Nat) (b:Code) (e:Env) (h:H) (a:iB):W (jm cx cf n mask dl (.block id b) e h) a=W (jm cx cf n mask dl b e h) (qV id a):=RX id _ e h a
def CK(d:aa T)(cx:Ctx)(cf:iL)(n mask:Nat)(dl:DL)(b c:Code)(e:Env)(h:H)(a:iB):Prop:=OY d (W (jm cx cf n mask dl b e h) a) (W (jm cx cf n mask dl c e h) a)
@[simp] theorem fw (d:Bool) (b c:Code) (e:Env) (h:H) (a:iB):CK (some (.bool d)) cx cf n mask dl b c e h a=if d=true then W (jm cx cf n mask dl b e h) a else W (jm cx cf n mask dl c e h) a:=id rfl
@[simp] theorem abA (a:Nat) (f g:Code) (c b:fN) (h:H) (d:iB):W (jm cx cf n mask dl (.cond (.tmp a) f g) ⟨c,b⟩ h) d=CK (if(mask>>>a)&&&1=1 then dH c a else dH b a) cx cf n mask dl f g ⟨c,b⟩ h d:=by
 rw[<-AV];apply propext;unfold CK;show W (dM (Env.get mask ⟨c,b⟩ a) λi=>_) d↔_;cases Env.get mask ⟨c,b⟩ a with
 |none=>simp[dM,OY,PL]
 |some i=>
  simp only[dR];cases i<;>simp only[OY,PL];rename_i j;cases j<;>simp
@[simp] theorem aby (b:Code) (e:Env) (h:H) (a:iB):W (jm cx cf n mask dl (.loop b) e h) a=W (nL (jm cx cf n mask dl b) n e h) a:=rfl
@[simp] theorem abx (e:Env) (h:H) (a:iB):W (jm cx cf n mask dl .skip e h) a=a.n e h:=CF e h a
@[simp] theorem abz (id:Nat) (e:Env) (h:H) (a:iB):W (jm cx cf n mask dl (.exit id) e h) a=a.x id e h:=CG id e h a
@[simp] theorem ade (e:Env) (h:H) (a:iB):W (jm cx cf n mask dl .ret e h) a=a.r e h:=TF e h a
end
end
end Go.TI
