/- Texts TiQuick to TiDeep. -/
import Derived.Test.YtmaeadedikngoaaGreatDoorA7
import Derived.KernelRfl
set_option linter.unusedVariables false
set_option linter.unusedSimpArgs false
namespace Go.TI
noncomputable section
def bn2{a:Type}(f:aa (T×H))(c:T->H->aa a):aa a:= @Option.rec (T×H) (λ_=>aa a) none (λd=> @Prod.rec T H (λ_=>aa a) (λe b=>c e b) d) f
def Vw(a:Fun):Code:=Option.casesOn a.fn.body .skip λb=>b
section
variable {mask nt:Nat}{K:List Nat}{pre:List T}
end
section
variable {P:List T->Prop}
end
end
noncomputable section
mutual
def wO:T->T->Bool
 | .undef,a=>(match a with| .undef=>true|_=>false)
 | .bool y,a=>(match a with| .bool n=>Bool.casesOn y (!n) n|_=>false)
 | .int o q,a=>(match a with| .int p r=>decide (o=p)&&decide (q=r)|_=>false)
 | .str s,a=>(match a with| .str t=>decide (s=t)|_=>false)
 | .jz,a=>(match a with| .jz=>true|_=>false)
 | .j3,a=>(match a with| .j3=>true|_=>false)
 | .ka,a=>(match a with| .ka=>true|_=>false)
 | .mL,a=>(match a with| .mL=>true|_=>false)
 | .fg,a=>(match a with| .fg=>true|_=>false)
 | .ptr a h j l,b=>(match b with| .ptr d i k m=>Nat.beq a d&&Nat.beq h i&&Nat.beq j k&&Nat.beq l m|_=>false)
 | .arr a h j l g,b=>(match b with| .arr d i k m c=>Nat.beq a d&&Nat.beq h i&&Nat.beq j k&&Nat.beq l m&&Bool.casesOn g (!c) c|_=>false)
 | .map a,b=>(match b with| .map d=>Nat.beq a d|_=>false)
 | .dq e g,b=>(match b with| .dq f c=>zH e f&&Bool.casesOn g (!c) c|_=>false)
 | .agg e,b=>(match b with| .agg f=>zH e f|_=>false)
 | .func g e,b=>(match b with| .func c f=>Nat.beq g c&&zH e f|_=>false)
 | .iface u w,b=>(match b with| .iface v x=>Nat.beq u v&&wO w x|_=>false)
 |_,_=>false
def zH:List T->List T->Bool
 | [],a=>(match a with| []=>true|_=>false)
 |x::b,a=>(match a with|y::c=>wO x y&&zH b c|_=>false)
end
theorem IG{b a:Bool}(c:(@Bool.rec (λ_=>Bool) (!a) a b)=true):b=a:=by cases b<;>cases a<;>simp_all
mutual
theorem Io:(h b:T)->wO h b=true->h=b
 | .undef,b,a=>by cases b<;>first|rfl|simp[wO]at a
 | .bool z,b,a=>by
  cases b<;>first|(simp[wO]at a;done)|skip
  rename_i n
  have a:(@Bool.rec (λ_=>Bool) (!n) n z)=true:=by unfold wO at a;exact a
  rw[IG a]
 | .int A B,b,a=>by cases b<;>simp[wO]at a;obtain⟨rfl,rfl⟩:=a;rfl
 | .str C,b,a=>by cases b<;>simp[wO]at a;subst a;rfl
 | .jz,b,a=>by cases b<;>first|rfl|simp[wO]at a
 | .j3,b,a=>by cases b<;>first|rfl|simp[wO]at a
 | .ka,b,a=>by cases b<;>first|rfl|simp[wO]at a
 | .mL,b,a=>by cases b<;>first|rfl|simp[wO]at a
 | .fg,b,a=>by cases b<;>first|rfl|simp[wO]at a
 | .ptr b i j k,c,a=>by cases c<;>simp[wO]at a;obtain⟨⟨⟨rfl,rfl⟩,rfl⟩,rfl⟩:=a;rfl
 | .arr b i j k g,c,a=>by
  cases c<;>first|(simp[wO]at a;done)|skip
  rename_i o p v w f
  have a:(Nat.beq b o&&Nat.beq i p&&Nat.beq j v&&Nat.beq k w&& @Bool.rec (λ_=>Bool) (!f) f g)=true:=by unfold wO at a;exact a
  simp only[ay]at a
  obtain⟨⟨⟨⟨q,r⟩,s⟩,t⟩,u⟩:=a
  rw[aC q,aC r,aC s,aC t,IG u]
 | .map b,c,a=>by cases c<;>simp[wO]at a;subst a;rfl
 | .dq d g,c,a=>by
  cases c<;>first|(simp[wO]at a;done)|skip
  rename_i e f
  have a:(zH d e&& @Bool.rec (λ_=>Bool) (!f) f g)=true:=by unfold wO at a;exact a
  simp only[ay]at a
  rw[Ag d e a.1,IG a.2]
 | .agg d,c,a=>by
  cases c<;>first|(simp[wO]at a;done)|skip
  rename_i e
  have a:zH d e=true:=by unfold wO at a;exact a
  rw[Ag d e a]
 | .func g d,c,a=>by
  cases c<;>first|(simp[wO]at a;done)|skip
  rename_i f e
  have a:(Nat.beq g f&&zH d e)=true:=by unfold wO at a;exact a
  simp only[ay]at a
  rw[aC a.1,Ag d e a.2]
 | .iface x l,c,a=>by
  cases c<;>first|(simp[wO]at a;done)|skip
  rename_i y m
  have a:(Nat.beq x y&&wO l m)=true:=by unfold wO at a;exact a
  simp only[ay]at a
  rw[aC a.1,Io l m a.2]
 | .iT _,b,a=>by simp[wO]at a
 | .iter _,b,a=>by simp[wO]at a
 | .tuple _,b,a=>by simp[wO]at a
theorem Ag:(c b:List T)->zH c b=true->c=b
 | [],b,a=>by cases b<;>first|rfl|simp[zH]at a
 |x::d,b,a=>by
  cases b<;>first|(simp[zH]at a;done)|skip
  rename_i e f
  have a:(wO x e&&zH d f)=true:=by unfold zH at a;exact a
  simp only[ay]at a
  rw[Io x e a.1,Ag d f a.2]
end
structure Ent where
 f:Nat
 args:List T
 h:H
 r:T
 h':H
def pJ(d:ai)(cx:Ctx)(a:Ent):Prop:=
 ∀e b c (g:af am),St cx e b.heap c a.h->fI b.heap c a.args g.toList->xV d (pK cx e b c a.h a.r a.h') ((callFunc a.f g).run d b)
mutual
def mn:T->Bool
 | .undef| .bool _| .int _ _| .str _| .jz| .fg| .j3| .ka| .mL=>true
 | .dq a _=>lQ a
 | .agg a=>lQ a
 | .tuple a=>lQ a
 | .iT a=>lQ a
 | .func _ a=>lQ a
 | .iface _ b=>mn b
 |_=>false
def lQ:List T->Bool
 | []=>true
 |x::a=>mn x&&lQ a
end
mutual
theorem A8:(c:T)->mn c=true->oP 0 c
 | .undef,_=> .undef
 | .bool _,_=> .bool _
 | .int _ _,_=> .int _ _
 | .str _,_=> .str _
 | .jz,_=> .jz
 | .fg,_=> .fg
 | .j3,_=> .j3
 | .ka,_=> .ka
 | .mL,_=> .mL
 | .dq b h,a=> .dq _ _ λc f=>by
  obtain⟨d,e,g⟩:=List.mem_flatMap.1 f
  exact(lI b (by unfold mn at a;exact a) d e).cells c g
 | .agg b,a=> .agg _ (lI b (by unfold mn at a;exact a))
 | .tuple b,a=> .tuple _ (lI b (by unfold mn at a;exact a))
 | .iT b,a=> .iT _ (lI b (by unfold mn at a;exact a))
 | .func _ b,a=> .func _ _ (lI b (by unfold mn at a;exact a))
 | .iface _ c,a=> .iface _ _ (A8 c (by unfold mn at a;exact a))
 | .ptr _ _ _ _,a=>by simp[mn]at a
 | .arr _ _ _ _ _,a=>by simp[mn]at a
 | .iter _,a=>by simp[mn]at a
 | .map _,a=>by simp[mn]at a
theorem lI:(d:List T)->lQ d=true->∀c∈d,oP 0 c
 | [],_=>λc a=>by simp at a
 |x::g,b=>λc a=>by
  unfold lQ at b
  rw[ay]at b
  have e:=A8 x b.1
  rcases List.mem_cons.1 a with f|a
  ·rw[f];exact e
  ·exact lI g b.2 c a
end
theorem eg.move{y:af Obj}{z A:Mu}{b:T}{l:am}(a:eg y z b l)(x:∀n,mG A n->mG z n)(hl:oP 0 b):eg y A b l:=by
 induction a with
 |undef=>exact .undef
 |bool h=>exact .bool h
 |int c J=>exact .int c J
 |str K a=>exact .str K a
 |jz=>exact .jz
 |ptr h D n P o g s G O=>cases hl with|ptr _ _ _ _ a=>omega
 |iT r p off arr k fz u t f j hr e=>
  cases hl with|iT _ a=>exact .iT r p off arr k fz (λc=>u (x _ c)) t f j λc b d=>e c b d (a b (az d))
 |mP m g=>exact .mP m g
 |dq C E m p off q L arr k fz u t w H I f j hr e=>
  cases hl with|dq _ _ a=>exact .dq C E m p off q L arr k fz (λc=>u (x _ c)) t w H I f j λc b d=>e c b d (a b (az d))
 |fg g q=>exact .fg g q
 |arr h D R Q m o g N s G w v=>cases hl with|arr _ _ _ _ _ a=>omega
 |func F B i f hr e=>cases hl with|func _ _ a=>exact .func F B i f λc b d=>e c b d (a b (az d))
 |j3=>exact .j3
 |ka=>exact .ka
 |iface k b l a e=>cases hl with|iface _ _ a=>exact .iface k b l (e a)
 |iter h o g s v=>cases hl with|iter _ a=>omega
 |map h o n s v=>cases hl with|map _ a=>omega
 |mL=>exact .mL
 |agg r i f j hr e=>cases hl with|agg _ a=>exact .agg r i f j λc b d=>e c b d (a b (az d))
 |tuple M i f hr e=>cases hl with|tuple _ a=>exact .tuple M i f λc b d=>e c b d (a b (az d))
def kO(d:ai)(cx:Ctx)(h:Nat)(g:List T)(i:T):Prop:=
 ∀e a c (f:af am) (b:H),St cx e a.heap c b->fI a.heap c g f.toList->xV d (pK cx e a c b i b) ((callFunc h f).run d a)
theorem z9{s:ai}{cx:Ctx}{u:Nat}{k:List T}{y:T}(hl:∀i∈k,oP 0 i)(C:pJ s cx ⟨u,k,⟨0,0,[]⟩,y,⟨0,0,[]⟩⟩):kO s cx u k y:=by
 intro O h f t P e v
 have q:∀b,mG ⟨λ_=>none,mG f⟩ b->mG f b:=by
  rintro b (⟨d,c,a,_⟩|hr)
  ·simp at a
  ·exact hr
 have D:∀b,mG f b->b<h.heap.size:=by
  rintro b (⟨d,c,a,rfl⟩|hr)
  ·exact e.lt a
  ·exact e.pM b hr
 have J:St cx h.heap.size h.heap ⟨λ_=>none,mG f⟩ ⟨0,0,[]⟩:=by
  refine⟨rfl,au _,λd c a=>by simp at a,λd N c M a=>by simp at a,λd c a=>by simp at a,λd c a=>by simp at a,λb hr=>D b hr,λn m p=> ?_⟩
  have:=e.xz n m p
  refine this.move q ?_
  obtain⟨_,_,_,_,_,_,_,_,_,G,_⟩:=this.kX
  exact .iT _ λi l=>(G i l).2.low 0
 have A:fI h.heap ⟨λ_=>none,mG f⟩ k t.toList:=⟨v.1,λr i l=>(v.2 r i l).move q (hl i (az l))⟩
 refine(C h.heap.size h ⟨λ_=>none,mG f⟩ t J A).mono λi z ⟨⟨L,x,I,g,Q⟩,R⟩=> ?_
 have F:∀b,mG f b->mG L b:=λb j=> .inr (by rw[g.ext.mH];exact j)
 have o:Ext h.heap f z.heap f:=by
  refine⟨g.ext.size,λb j w=>⟨(g.ext.wF b j (λr=>w (q b r))).1,w⟩,λd c a=>⟨c,a,.inl rfl⟩,rfl,λb j hr=> ?_⟩
  exact g.ext.kept b j (.inr hr)
 have B:∀d c,f d=some c->z.heap[c.io]? =h.heap[c.io]? :=λd c a=>g.ext.kept c.io (e.lt a) (.inl ⟨d,c,a,rfl⟩)
 refine⟨⟨f,x.move F (x.low λd c a=>I.dL a),⟨e.wf,aS e.fit g.ext.size,λd c a=> ?_,e.inj,e.low,e.apart,λb hr=>bD (e.pM b hr) g.ext.size,λn m p=>(e.xz n m p).ext o⟩,⟨o,g.os,g.tape,g.output⟩,wZ.refl _ _⟩,kv.refl e.wf⟩
 obtain⟨K,H,E⟩:=e.box d c a
 exact⟨K,H,E.ext o (B d c a)⟩
def zk:List T->List T->Bool
 | [],a=>(match a with| []=>true|_=>false)
 |x::b,a=>(match a with|y::c=>zk b c&&wO x y|_=>false)
theorem NP:∀(c a:List T),zk c a=true->c=a:=by
 intro c
 induction c with
 |nil=>intro a b;cases a<;>first|rfl|simp[zk]at b
 |cons f g d=>
  intro a b
  cases a with
  |nil=>simp[zk]at b
  |cons h e=>
   simp only[zk,ay]at b
   rw[Io _ _ b.2,d e b.1]
abbrev uj:=List (Nat×List (List T×T))
def C4(e:List (List T×T))(b:List T):aa T:=
 @List.rec (List T×T) (λ_=>aa T) none (λc _ d=>Prod.casesOn c λa f=> @Bool.rec (λ_=>aa T) d (some f) (zk b a)) e
def zj(h:uj)(d:Nat)(b:List T):aa T:=
 @List.rec (Nat×List (List T×T)) (λ_=>aa T) none (λc _ a=>Prod.casesOn c λe f=> @Bool.rec (λ_=>aa T) a (Option.casesOn (C4 f b) a λg=>some g) (Nat.beq d e)) h
inductive wY (P:ai) (cx:Ctx):uj->Prop where
 |nil:wY P cx []
 |new {f:Nat} {t:uj}:wY P cx t->wY P cx ((f,[])::t)
 |ent {f:Nat} {a:List T} {r:T} {l:List (List T×T)} {t:uj}:kO P cx f a r->wY P cx ((f,l)::t)->wY P cx ((f,(a,r)::l)::t)
theorem wY.mem{g:ai}{cx:Ctx}{h:uj}(c:wY g cx h):∀b d,(b,d)∈h->∀a e,(a,e)∈d->kO g cx b a e:=by
 induction c with
 |nil=>intro b d c;simp at c
 |new _ f=>
  intro b d c a e hr
  rcases List.mem_cons.1 c with k|k
  ·simp only[ax]at k;obtain⟨_,rfl⟩:=k;simp at hr
  ·exact f b d k a e hr
 |ent i _ f=>
  intro b d c a e hr
  rcases List.mem_cons.1 c with k|k
  ·simp only[ax]at k;obtain⟨rfl,rfl⟩:=k
   rcases List.mem_cons.1 hr with q|q
   ·simp only[ax]at q;obtain⟨rfl,rfl⟩:=q;exact i
   ·exact f _ _ (db ..) a e q
  ·exact f b d (cw _ k) a e hr
theorem K6{c:List (List T×T)}{b:List T}{d:T}(a:C4 c b=some d):(b,d)∈c:=by
 induction c with
 |nil=>simp[C4]at a
 |cons g c h=>
  obtain⟨f,r1⟩:=g
  have a: @Bool.rec (λ_=>aa T) (C4 c b) (some r1) (zk b f)=some d:=a
  cases e:zk b f with
  |false=>rw[e]at a;exact cw _ (h a)
  |true=>
   rw[e]at a
   have a:some r1=some d:=a
   simp only[ar]at a;subst a
   rw[NP _ _ e];exact db ..
theorem K5{e:uj}{c:Nat}{b:List T}{d:T}(a:zj e c b=some d):∃f,(c,f)∈e/\(b,d)∈f:=by
 induction e with
 |nil=>simp[zj]at a
 |cons l e o=>
  obtain⟨h,f⟩:=l
  have a: @Bool.rec (λ_=>aa T) (zj e c b) (@Option.rec T (λ_=>aa T) (zj e c b) (λd=>some d) (C4 f b)) (Nat.beq c h)=some d:=a
  have k:zj e c b=some d->∃g,(c,g)∈(h,f)::e/\(b,d)∈g:=λp=>by
   obtain⟨g,m,n⟩:=o p
   exact⟨g,cw _ m,n⟩
  cases j:Nat.beq c h with
  |false=>rw[j]at a;exact k a
  |true=>
   rw[j]at a
   cases i:C4 f b with
   |none=>rw[i]at a;exact k a
   |some q=>
    rw[i]at a
    have a:some q=some d:=a
    simp only[ar]at a;subst a
    rw[aC j]
    exact⟨f,db ..,K6 i⟩
def Ns(h:uj)(ft:aj->aa pk):aj->aa pk:=λb=>
 Option.casesOn (ft b) none λe=>some λd f a c=>Option.casesOn (zj h b a) (e d f a c) λg=>some (g,c)
theorem Nr{i:ai}{cx:Ctx}{h:uj}{ft:aj->aa pk}(y:wY i cx h)(z:∀a c,ft a=some c->lV i cx a c):∀a c,Ns h ft a=some c->lV i cx a c:=by
 intro a c d
 unfold Ns at d
 cases k:ft a with
 |none=>rw[k]at d;simp at d
 |some o=>
  rw[k]at d
  simp only[ar]at d
  subst d
  intro n v q e f g j b l t u m s p
  have b: @Option.rec T (λ_=>aa (T×H)) (o n q e f) (λg=>some (g,f)) (zj h a e)=some (g,j):=b
  cases hE:zj h a e with
  |none=>rw[hE]at b;exact z a o k n v q e f g j b l t u m s p
  |some r=>
   rw[hE]at b
   have b:some (r,f)=some (g,j):=b
   simp only[ar,ax]at b
   obtain⟨rfl,rfl⟩:=b
   obtain⟨A,w,x⟩:=K5 hE
   exact y.mem a A w e r x l t u m f s p
def we(b:uj)(ft:aj->aa pk)(a:Nat):ir:=GI (Ns b ft) a
theorem GG{a:ai}{cx:Ctx}{e:uj}{ft:aj->aa pk}(f:wY a cx e)(g:∀b c,ft b=some c->lV a cx b c)(d:Nat):mN a cx (we e ft d):=GH (Nr f g) d
theorem wY.next{c:ai}{cx:Ctx}{f:uj}{ft:aj->aa pk}(n:∀a g,ft a=some g->lV c cx a g){i:Nat}{a:Nat}{d:List (List T×T)}(h:wY c cx ((a,d)::f)){b:List T}{e:T}
 (hl:lQ b=true) (m:we ((a,d)::f) ft i a b ⟨0,0,[]⟩=some (e,⟨0,0,[]⟩)):wY c cx ((a,(b,e)::d)::f):=
 .ent (z9 (lI b hl) λj p q k o l=>GG h n i a b ⟨0,0,[]⟩ e ⟨0,0,[]⟩ m j p q k o l) h
def put(a:eZ)(b:Nat)(c:T):eZ:=(kT a b c).getD a
theorem oh(e:eZ)(a:Nat)(d:T):kT e a d=some (put e a d):=by
 have:∃c,kT e a d=some c:=by
  induction e with
  |nil=>exact⟨_,rfl⟩
  |cons b h c i=>
   obtain⟨f,ht⟩:=i
   cases g:Nat.beq b a with
   |true=>exact⟨.cons b d c,by show @Bool.rec (λ_=>aa eZ) _ _ (Nat.beq b a)=_;rw[g]⟩
   |false=>exact⟨.cons b h f,by show @Bool.rec (λ_=>aa eZ) (dB (kT c a d) λf=>some (.cons b h f)) _ (Nat.beq b a)=_;rw[g,ht];rfl⟩
 obtain⟨c,hr⟩:=this
 rw[hr];unfold put;rw[hr];rfl
theorem kL(b:Nat)(d:T)(c:eZ)(a:Nat):dt (.cons b d c) a=if b=a then some d else dt c a:=by
 show @Bool.rec (λ_=>aa T) (dt c a) (some d) (Nat.beq b a)=_
 cases e:Nat.beq b a with
 |true=>rw[aq (aC e)]
 |false=>rw[ao (cJ e)]
theorem CV(a:Nat):dt .nil a=none:=rfl
theorem Nx(g:eZ)(b:Nat)(c:T)(j:Nat):dt (put g b c) j=if b=j then some c else dt g j:=by
 have a:=oh g b c
 generalize put g b c=f at a
 induction g generalizing f with
 |nil=>
  have a:some (eZ.cons b c .nil)=some f:=a
  simp only[ar]at a;subst a
  rw[kL,CV]
 |cons e k d l=>
  have a: @Bool.rec (λ_=>aa eZ) (dB (kT d b c) λd=>some (.cons e k d)) (some (.cons e c d)) (Nat.beq e b)=some f:=a
  cases h:Nat.beq e b with
  |true=>
   rw[h]at a
   have a:some (eZ.cons e c d)=some f:=a
   simp only[ar]at a;subst a
   have:=aC h
   subst this
   simp only[kL]
   split<;>rfl
  |false=>
   rw[h]at a
   have a:(dB (kT d b c) λd=>some (eZ.cons e k d))=some f:=a
   rw[oh]at a
   simp only[dD,ar]at a;subst a
   have:=cJ h
   rw[kL,kL,l _ (oh _ _ _)]
   split
   ·rename_i i;subst i;rw[ao (λi=>this i.symm)]
   ·rfl
structure gU where
 n:Env->H->Prop
 x:Nat->Env->H->Prop
 r:Env->H->Prop
def W(f:Out)(c:gU):Prop:=∃d a b,f=some (d,a,b)/\Ex.casesOn d (c.n a b) (λe=>c.x e a b) (c.r a b)
@[simp] theorem BY (a:Env) (b:H) (d:gU):W (some (.normal,a,b)) d=d.n a b:=by
 apply propext;constructor
 ·rintro⟨h,f,g,e,c⟩
  simp only[ar,ax]at e
  obtain⟨rfl,rfl,rfl⟩:=e;exact c
 ·exact λc=>⟨_,a,b,rfl,c⟩
@[simp] theorem BZ (f:Nat) (a:Env) (b:H) (d:gU):W (some (.exit f,a,b)) d=d.x f a b:=by
 apply propext;constructor
 ·rintro⟨i,g,h,e,c⟩
  simp only[ar,ax]at e
  obtain⟨rfl,rfl,rfl⟩:=e;exact c
 ·exact λc=>⟨_,a,b,rfl,c⟩
@[simp] theorem S5 (a:Env) (b:H) (d:gU):W (some (.ret,a,b)) d=d.r a b:=by
 apply propext;constructor
 ·rintro⟨h,f,g,e,c⟩
  simp only[ar,ax]at e
  obtain⟨rfl,rfl,rfl⟩:=e;exact c
 ·exact λc=>⟨_,a,b,rfl,c⟩
theorem OK(a:gU):¬W none a:=by rintro⟨e,c,d,b,_⟩;simp at b
def DJ(b:Env->H->Out)(a:gU):gU:=⟨λc d=>W (b c d) a,a.x,a.r⟩
def qI(id:Nat)(a:gU):gU:=⟨a.n,λd b c=>if d=id then a.n b c else a.x d b c,a.r⟩
def wK(b:Env->H->Prop)(a:gU):gU:=⟨b,a.x,a.r⟩
@[simp] theorem adJ (b:Env->H->Out) (a:gU) (c:Env) (d:H):(DJ b a).n c d=W (b c d) a:=rfl
@[simp] theorem Ut (e:Env->H->Out) (a:gU) (d:Nat) (b:Env) (c:H):(DJ e a).x d b c=a.x d b c:=rfl
@[simp] theorem adI (d:Env->H->Out) (a:gU) (b:Env) (c:H):(DJ d a).r b c=a.r b c:=rfl
@[simp] theorem Zb (id:Nat) (a:gU) (b:Env) (c:H):(qI id a).n b c=a.n b c:=rfl
@[simp] theorem xv (id:Nat) (a:gU) (d:Nat) (b:Env) (c:H):(qI id a).x d b c=if d=id then a.n b c else a.x d b c:=rfl
@[simp] theorem Za (id:Nat) (a:gU) (b:Env) (c:H):(qI id a).r b c=a.r b c:=rfl
@[simp] theorem adM (a:Env->H->Prop) (d:gU) (b:Env) (c:H):(wK a d).n b c=a b c:=rfl
@[simp] theorem adK (e:Env->H->Prop) (a:gU) (d:Nat) (b:Env) (c:H):(wK e a).x d b c=a.x d b c:=rfl
@[simp] theorem adL (d:Env->H->Prop) (a:gU) (b:Env) (c:H):(wK d a).r b c=a.r b c:=rfl
@[simp] theorem aam (c e:Env->H->Out) (a:Env) (b:H) (d:gU):W (AF c e a b) d=W (c a b) (DJ e d):=by
 apply propext
 unfold AF
 cases k:c a b with
 |none=>constructor<;>(rintro⟨f,a,b,g,_⟩;simp[dB]at g)
 |some h=>
  obtain⟨f,i,j⟩:=h
  simp only[dD,km]
  cases f<;>simp
@[simp] theorem QV (id:Nat) (g:Env->H->Out) (b:Env) (d:H) (a:gU):W (wV id g b d) a=W (g b d) (qI id a):=by
 apply propext
 unfold wV
 cases l:g b d with
 |none=>constructor<;>(rintro⟨i,b,d,j,_⟩;simp[dB]at j)
 |some k=>
  obtain⟨i,c,e⟩:=k
  simp only[dD,km]
  cases i with
  |normal=>simp
  |ret=>simp
  |exit f=>
   show W (@Bool.rec (λ_=>Out) (some (.exit f,c,e)) (some (.normal,c,e)) (Nat.beq f id)) a↔_
   cases h:Nat.beq f id with
   |true=>
    show W (some (.normal,c,e)) a↔_
    rw[BY,BZ,xv,aq (aC h)]
   |false=>
    show W (some (.exit f,c,e)) a↔_
    rw[BZ,BZ,xv,ao (cJ h)]
def JI(d:aa T)(a b:Prop):Prop:=match d with
 |some (.bool c)=>if c=true then a else b
 |_=>False
@[simp] theorem U6 (c:Bool) (a b:Prop):JI (some (.bool c)) a b=if c=true then a else b:=rfl
theorem OM{σ:Type}{g:Env->H->Out}(I:σ->Env->H->Prop)(m:σ->Nat){i:gU}
 (r:∀c a b,I c a b->W (g a b) (wK (λe f=>∃h,m h<m c/\I h e f) i)):
 ∀d c a b,m c<d->I c a b->W (ni g d a b) i:=by
 intro d
 induction d with
 |zero=>intro c a b t;omega
 |succ d u=>
  intro c a b t p
  obtain⟨k,n,o,s,j⟩:=r c a b p
  show W (dB (g a b) λv=>three v λk e f=> @Ex.rec (λ_=>Out) (ni g d e f) (λl=>some (.exit l,e,f)) (some (.ret,e,f)) k) i
  rw[s]
  simp only[dD,km]
  cases k with
  |normal=>
   obtain⟨h,w,q⟩:=j
   exact u h n o (by omega) q
  |exit l=>exact(BZ _ _ _ _).mpr j
  |ret=>exact(S5 _ _ _).mpr j
section
variable {P:ai}{cx:Ctx}
def Uu(cx:Ctx)(e:Nat)(d:Bool)(g:List ResultVar)(f:T):gU:=
 ⟨
  λb a=>(dB (kq cx e b a g) λc=>qH d 0 0 (hU c) a)=some (f,⟨0,0,[]⟩),λ_ _ _=>False,
  λb a=>(dB (kq cx e b a g) λc=>qH d 0 0 (hU c) a)=some (f,⟨0,0,[]⟩)⟩
@[simp] theorem adP (d:Nat) (c:Bool) (f:List ResultVar) (e:T) (b:Env) (a:H):(Uu cx d c f e).n b a=((dB (kq cx d b a f) λg=>qH c 0 0 (hU g) a)=some (e,⟨0,0,[]⟩)):=rfl
@[simp] theorem adO (d:Nat) (c:Bool) (f:List ResultVar) (e:T) (b:Env) (a:H):(Uu cx d c f e).r b a=((dB (kq cx d b a f) λg=>qH c 0 0 (hU g) a)=some (e,⟨0,0,[]⟩)):=rfl
@[simp] theorem adN (e:Nat) (d:Bool) (g:List ResultVar) (f:T) (c:Nat) (a:Env) (b:H):(Uu cx e d g f).x c a b=False:=rfl
end
end
noncomputable section
@[simp] theorem aae {d:Type} (c:T) (a:H) (b:T->H->aa d):bn2 (some (c,a)) b=b c a:=rfl
@[simp] theorem aaf {b:Type} (a:T->H->aa b):bn2 none a=none:=rfl
@[simp] theorem abq (c:ir) (d a:H) (b:T):fin c d (some (.val b a))=some (b,a):=rfl
@[simp] theorem ZS (b:ir) (d:H) (c:aj) (a:List T):fin b d (some (.call c a))=b c a d:=rfl
@[simp] theorem WH (a:H) (b:T):ad2 a (some b)=some (b,a):=rfl
@[simp] theorem WJ (b:H) (a:Bool):ad4 b true (some a)=some (.bool a,b):=by cases a<;>rfl
@[simp] theorem WI (b:H) (a:Bool):ad3 b true (some a)=some (.bool (!a),b):=by cases a<;>rfl
@[simp] theorem w9 (a:H) (b:T):val a (some b)=some (.val b a):=rfl
@[simp] theorem Xm (a:H):val a none=none:=rfl
@[simp] theorem yS (a:H) (b:T):iV (some (b,a))=some (.val b a):=rfl
@[simp] theorem Ti (a b:Bool):Q9 (.bool a) b=some (a==b):=by cases a<;>cases b<;>rfl
@[simp] theorem Q8 (a:Bool):Q9 .undef a=some false:=rfl
@[simp] theorem TX (d:H) (a:Bool) (b c:T):Yp d (.bool a) b c=some (.val (if a=true then b else c) d):=by cases a<;>rfl
@[simp] theorem YQ (b:Bool) (c:ak) (d:Int) (a:T):P1 b (.int c d) a=true:=rfl
@[simp] theorem YP (b:Bool) (c:List Nat) (a:T):P1 b (.str c) a=true:=rfl
@[simp] theorem Wi (b:Bool) (c:Bool) (a:T):P1 b (.bool c) a=true:=rfl
@[simp] theorem YR (b:Bool) (c:List T) (a:T):P1 b (.agg c) a=true:=rfl
theorem Qe(a b:List Nat):SW a b=decide (a=b):=by rw[Er,bF];simp
theorem Qf(a b:Int):Pd a b=decide (a=b):=by rw[wP];rfl
theorem vj(a b:Int):Jq a b=decide (a<b):=wJ a b
@[simp] theorem qJ (a:ak):B5 a a=true:=by cases a<;>rfl
@[simp] theorem UR (d a:ak) (b c:Int):qP (.int d) (.int a b) (.int a c)=some (decide (b=c)):=by
 show fy (B5 a a) (some (Pd b c))=_
 rw[qJ,Qf];rfl
@[simp] theorem UQ (a b:List Nat):qP .str (.str a) (.str b)=some (decide (a=b)):=by
 show some (SW a b)=_;rw[Qe]
@[simp] theorem SX (a b:Bool):qP .bool (.bool a) (.bool b)=some (a==b):=by cases a<;>cases b<;>rfl
@[simp] theorem W5 (a:ak) (b c:Int):binop .lss (.int a b) (.int a c)=some (.bool (decide (b<c))):=by
 show fy (B5 a a) (vQ (Jq b c))=_
 rw[qJ,vj,fO,qz]
@[simp] theorem W6 (a:ak) (b c:Int):binop .leq (.int a b) (.int a c)=some (.bool (decide (b<=c))):=by
 show fy (B5 a a) (vQ (!Jq c b))=_
 rw[qJ,vj,fO,qz];congr 2;rw[bF];simp
@[simp] theorem W7 (a:ak) (b c:Int):binop .gtr (.int a b) (.int a c)=some (.bool (decide (c<b))):=by
 show fy (B5 a a) (vQ (Jq c b))=_
 rw[qJ,vj,fO,qz]
@[simp] theorem W8 (a:ak) (b c:Int):binop .geq (.int a b) (.int a c)=some (.bool (decide (c<=b))):=by
 show fy (B5 a a) (vQ (!Jq b c))=_
 rw[qJ,vj,fO,qz];congr 2;rw[bF];simp
theorem jB{a:Int}(d: -9223372036854775808<=a)(c:a<9223372036854775808):IT .i64 a=a:=by
 cases a with
 |ofNat b=>
  show @Bool.rec (λ_=>Int) _ _ (Nat.ble b 9223372036854775807)=_
  rw[cj (by simp at c;omega)]
 |negSucc b=>
  show @Bool.rec (λ_=>Int) _ _ (Nat.ble b 9223372036854775807)=_
  rw[cj (by omega)]
theorem E9{a:Int}(b: -9223372036854775808<=a)(c:a<9223372036854775808):oS .i64 a=some (.int .i64 a):=by
 unfold oS;rw[jB b c,nM]
theorem fQ{a b:Int}(c: -9223372036854775808<=a+b)(d:a+b<9223372036854775808):binop .add (.int .i64 a) (.int .i64 b)=some (.int .i64 (a+b)):=E9 c d
theorem kl{a b:Int}(c: -9223372036854775808<=a-b)(d:a-b<9223372036854775808):binop .sub (.int .i64 a) (.int .i64 b)=some (.int .i64 (a-b)):=E9 c d
theorem II{a b:Nat}(c:a<b)(d:b<9223372036854775808):binop .add (.int .i64 (a:Int)) (.int .i64 1)=some (.int .i64 ((a+1:Nat):Int)):=by
 rw[fQ (by omega) (by omega)];rfl
@[simp] theorem Xn (a:Bool):unop .not (.bool a)=some (.bool !a):=by cases a<;>rfl
theorem Ba{b:Type}(a:List b):kc a=a.length:=iX a
@[simp] theorem VO (b:ak) (a:Nat):mR (.int b (a:Int))=some a:=rfl
@[simp] theorem aaI (a:ak):mR (.int a 0)=some 0:=rfl
@[simp] theorem Wt (b:H) (a:List T) (c:Bool):Y4 b (.dq a c)=some (.val (.int .i64 (a.length:Nat)) b):=by
 show val b (dB (fF (kc a)) λd=>some (.int .i64 (.ofNat d)))=_
 rw[Ba,gD];rfl
@[simp] theorem Ws (a:H):Y4 a .fg=some (.val (.int .i64 0) a):=rfl
@[simp] theorem Y3 (a:H) (b:List Nat):adF a (.str b)=some (.val (.int .i64 (b.length:Nat)) a):=by
 show val a (dB (fF (kc b)) λc=>some (.int .i64 (.ofNat c)))=_
 rw[Ba,gD];rfl
@[simp] theorem WU (a:List Nat):(T.str a).cells=[.str a]:=id rfl
@[simp] theorem WY (a:ak) (b:Int):(T.int a b).cells=[.int a b]:=id rfl
@[simp] theorem Vf (a:Bool):(T.bool a).cells=[.bool a]:=id rfl
@[simp] theorem Ve (a:List T) (b:Bool):(T.dq a b).cells=[.dq a b]:=id rfl
@[simp] theorem Vd:T.fg.cells=[.fg]:=id rfl
@[simp] theorem W0 (a:List T):(T.agg a).cells=a:=id rfl
@[simp] theorem tU (a b:Nat):Nat.beq a b=decide (a=b):=by
 rw[bF];simp
@[simp] theorem JW (a b:Nat):Nat.ble a b=decide (a<=b):=by
 rw[bF];simp
@[simp] theorem QO (a b:Nat):Nat.blt a b=decide (a<b):=by
 rw[bF,aG];simp
@[simp] theorem Zv (a:List Nat):(T.str a).fT=true:=id rfl
@[simp] theorem Zx (a:ak) (b:Int):(T.int a b).fT=true:=id rfl
@[simp] theorem WC (a:Bool):(T.bool a).fT=true:=id rfl
@[simp] theorem WB (a:List T) (b:Bool):(T.dq a b).fT=true:=id rfl
@[simp] theorem Zz (a:List T):(T.agg a).fT=true:=id rfl
@[simp] theorem ZT (off:Nat) (b:H) (a:List T):faV off b (.iT a)=dB (je off a) λc=>some (kx.val (.iT c) b):=rfl
@[simp] theorem Wr (c:H) (b:Ty) (a:List T):c.load b (.iT a)=jK b a:=rfl
@[simp] theorem abw {b:Type} (a:List b):je 0 a=some a:=rfl
@[simp] theorem abv {c:Type} (b:Nat) (d:c) (a:List c):je (b+1) (d::a)=je b a:=rfl
@[simp] theorem aaL {b:Type} (a:List b):takeN 0 a=some []:=rfl
@[simp] theorem aaK {d:Type} (b:Nat) (c:d) (a:List d):takeN (b+1) (c::a)=dB (takeN b a) λe=>some (c::e):=rfl
@[simp] theorem aa8 (b:H) (c:List Nat) (a:T):isV b (.str c) a=dB (mR a) λa=>dB (kW c a) λd=>val b (some (.int .u8 (.ofNat d))):=rfl
@[simp] theorem WM (a:H) (c:List T) (b:Nat):exV a (.tuple c) b=val a (kW c b):=rfl
end
noncomputable section
open Classical in
@[simp] theorem CU:lQ []=true:=by unfold lQ;rfl
@[simp] theorem A7 (a:T) (b:List T):lQ (a::b)=(mn a&&lQ b):=by rw[lQ]
@[simp] theorem FL (a:ak) (b:Int):mn (.int a b)=true:=by unfold mn;rfl
@[simp] theorem Wq (a:Bool):mn (.bool a)=true:=by unfold mn;rfl
@[simp] theorem FK (a:List Nat):mn (.str a)=true:=by unfold mn;rfl
@[simp] theorem Wo:mn .fg=true:=by unfold mn;rfl
@[simp] theorem Wp (a:List T) (b:Bool):mn (.dq a b)=lQ a:=by rw[mn]
@[simp] theorem FM (a:List T):mn (.agg a)=lQ a:=by rw[mn]
theorem KU{d:Type}(c:d->T)(e:∀b,mn (c b)=true):∀a:List d,lQ (a.map c)=true:=by
 intro a
 induction a with
 |nil=>simp
 |cons b a f=>simp[e b,f]
def SL(b:T)(a:List T):Prop:=(b= .fg/\a=[])\/∃c,b= .dq a c
def sl(a:List T):T:=match a with| []=> .fg|x::b=> .dq (x::b) false
theorem QW(a:List T)(b:Bool):SL (.dq a b) a:= .inr ⟨b,rfl⟩
theorem SL.iy{b:T}{a:List T}(d:SL b a)(c:H):c.iy b=some a:=by
 rcases d with⟨rfl,rfl⟩|⟨e,rfl⟩<;>rfl
theorem SL.cells{a:T}{b:List T}(c:SL a b):a.cells=[a]:=by
 rcases c with⟨rfl,rfl⟩|⟨d,rfl⟩<;>rfl
theorem SL.fT{a:T}{b:List T}(c:SL a b):a.fT=true:=by
 rcases c with⟨rfl,rfl⟩|⟨d,rfl⟩<;>rfl
@[simp] theorem Wu (b:Int) (a:ak):qH false 0 0 (hU [.int a b]) ⟨0,0,[]⟩=some (.int a b,⟨0,0,[]⟩):=rfl
@[simp] theorem Uq (a:Bool):qH false 0 0 (hU [.bool a]) ⟨0,0,[]⟩=some (.bool a,⟨0,0,[]⟩):=rfl
end
noncomputable section
def Hp(a:H):Prop:=a.ec.length=a.size
theorem Q2{a:H}(b:Hp a)(c:iE):Hp (a.cons c):=by unfold Hp at*;simp[H.cons,b]
@[simp] theorem size_cons (a:H) (b:iE):(a.cons b).size=a.size+1:=rfl
def dI(a:H)(b:Nat)(c:iE):H:=(a.put b c).getD a
theorem Fc{b:H}(i:Hp b){a:Nat}(h:a<b.size)(e:iE):b.put a e=some (dI b a e):=by
 have:∃d,b.put a e=some d:=by
  obtain⟨c,f,j⟩:=b
  unfold Hp at i
  simp only at i h
  show∃d,(fy (Nat.blt a c) (dB (kf j (Nat.sub (Nat.sub c 1) a) e) λg=> @Bool.rec (λ_=>aa H) (some ⟨c,f,g⟩) (some ⟨c,a,g⟩) (Nat.blt a f)))=some d
  rw[show Nat.blt a c=true by rw[aG];exact h,fO,kh,aq (by show c-1-a<_;omega),dD]
  cases Nat.blt a f<;>exact⟨_,rfl⟩
 obtain⟨d,k⟩:=this
 unfold dI;rw[k];rfl
theorem HE{b:H}(i:Hp b){a:Nat}(g:a<b.size)(d:iE):Hp (dI b a d)/\(dI b a d).size=b.size/\∀e,(dI b a d).get e=if e=a then some d else b.get e:=by
 have f:=Fc i g d
 generalize dI b a d=j at*
 obtain⟨c,l,m⟩:=b
 unfold Hp at*
 simp only at i g
 have f:(fy (Nat.blt a c) (dB (kf m (Nat.sub (Nat.sub c 1) a) d) λn=> @Bool.rec (λ_=>aa H) (some ⟨c,l,n⟩) (some ⟨c,a,n⟩) (Nat.blt a l)))=some j:=f
 rw[show Nat.blt a c=true by rw[aG];exact g,fO,kh,aq (by show c-1-a<_;omega),dD]at f
 have q:j.size=c/\j.ec=m.set (c-1-a) d:=by
  cases hl:Nat.blt a l<;>rw[hl]at f<;>simp only[ar]at f<;>subst f<;>exact⟨rfl,rfl⟩
 obtain⟨k,p⟩:=q
 refine⟨by rw[k,p];simp[i],k,λe=> ?_⟩
 rw[H.get_eq,H.get_eq,k,p]
 by_cases o:e=a
 ·subst o
  rw[aq g,aq rfl]
  simp[cm,i];omega
 ·rw[ao o]
  simp only
  by_cases h:e<c
  ·rw[aq h,aq h,List.getElem?_set_ne (by omega)]
  ·rw[ao h,ao h]
theorem get_put{b:H}(f:Hp b){c:Nat}(e:c<b.size)(d:iE)(a:Nat):(dI b c d).get a=if a=c then some d else b.get a:=(HE f e d).2.2 a
@[simp] theorem abs (off:Nat) (c:H) (a b d e:Nat):faV off c (.ptr a b d e)=some (.val (.ptr a b d (e+off)) c):=by
 show(dB (fF (Nat.add e off)) λf=>some (kx.val (.ptr a b d f) c))=_
 rw[gD];rfl
theorem QN(b:H){a:T}(c:a.fT=true):Vp b a=some (.val (.ptr b.size 0 0 0) (b.cons ⟨a.cells.length,0,0,true,false,[a]⟩)):=by
 unfold Vp
 rw[c,fO,H.j4,Ba];rfl
@[simp] theorem aac (a:H) (b:List T):Vp a (.agg b)=some (.val (.ptr a.size 0 0 0) (a.cons ⟨b.length,0,0,true,false,[.agg b]⟩)):=QN a rfl
@[simp] theorem No (a:H) (b:Nat->T) (c:iE):iV (a.new b c)=some (.val (b a.size) (a.cons c)):=by rw[H.j4];rfl
@[simp] theorem Y6 (b:iE) (a:Bool):qH false 0 0 (hU [.bool a]) (H.cons ⟨0,0,[]⟩ b)=some (.bool a,⟨0,0,[]⟩):=rfl
@[simp] theorem Y5 (c:iE) (a:ak) (b:Int):qH false 0 0 (hU [.int a b]) (H.cons ⟨0,0,[]⟩ c)=some (.int a b,⟨0,0,[]⟩):=rfl
theorem H8{a:H}(b:Hp a)(g d:T):sL 0 0 g d a=some (d,⟨0,0,[]⟩):=by
 obtain⟨c,f,e⟩:=a
 unfold Hp at b
 simp only at b
 unfold sL
 simp only
 rw[show Nat.sub c 0=c from rfl,kZ,aq (by omega),dD,show Nat.ble 0 f=true by simp]
 simp[show e.drop c=[]by simp[b]]
theorem FP{a:H}(e:Hp a){b c:T}(d:jd a 0 b=some c):qH false 0 0 b a=some (c,⟨0,0,[]⟩):=by
 show @Option.rec T (λ_=>aa (T×H)) (mB 0 b a) (λc=>sL 0 0 b c a) (jd a 0 b)=_
 rw[d]
 exact H8 e b c
inductive Q3:T->Prop where
 |bool (b:Bool):Q3 (.bool b)
 |int (k:ak) (n:Int):Q3 (.int k n)
 |str (s:List Nat):Q3 (.str s)
 |dq (es:List T) (f:Bool):Q3 (.dq es f)
 |fg:Q3 .fg
theorem Q3.freeze{a:T}(d:Q3 a)(c:H)(e b:Nat):freeze c e (b+1) a=some a:=by cases d<;>rfl
theorem rx{c:T->aa T}{a:List T}(d:∀b∈a,c b=some b):eK c a=some a:=by
 induction a with
 |nil=>rfl
 |cons b h f=>
  rw[jc,d b (by simp),f λg e=>d g (by simp[e])];rfl
def aaA(b:T):Prop:=Q3 b\/∃a,b= .agg a/\∀c∈a,Q3 c
theorem aaA.freeze{e:T}(d:aaA e)(b:H)(c a:Nat):freeze b c (a+2) e=some e:=by
 rcases d with d|⟨f,rfl,g⟩
 ·exact d.freeze b c (a+1)
 ·show(dB (eK (Go.TI.freeze b c (a+1)) f) λi=>some (T.agg i))=_
  rw[rx λj h=>(g j h).freeze b c a];rfl
def yz(b:List (Nat×Nat))(c d:Nat):Bool:=b.any λa=>a.1==c&&a.2==d
def kM(a:List (Nat×Nat))(b:Nat):Bool:=a.any λc=>c.1==b
theorem C3{a:List (Nat×Nat)}{b d:Nat}(h:yz a b d=true):kM a b=true:=by
 unfold yz at h;unfold kM
 rw[List.any_eq_true]at h|-
 obtain⟨f,c,h⟩:=h
 exact⟨f,c,by simp at h;simp[h.1]⟩
def Qy(g:List (Nat×Nat))(c:af Oper):Bool:=
 let f:=IJ c.toList []
 let d:=c.toList.zipIdx
 d.all λa=>d.all λb=> !Nat.blt b.2 a.2|| !((ry b.1.op&&fZ a.1.op)||(fZ b.1.op&&(ry a.1.op||fZ a.1.op)))||(f.getD a.2 0).testBit b.2||yz g b.2 a.2
theorem BI{j:List (Nat×Nat)}{g:af Oper}(k:Qy j g=true){b c:Nat}{f d:Oper}(p:g[b]? =some f)(r:g[c]? =some d)(q:b<c)
 (s:(ry f.op=true/\fZ d.op=true)\/(fZ f.op=true/\(ry d.op=true\/fZ d.op=true))):jg g b c=true\/yz j b c=true:=by
 unfold Qy at k
 have m:=List.all_eq_true.1 k (d,c) (mem_zipIdx r)
 have a:=List.all_eq_true.1 m (f,b) (mem_zipIdx p)
 have o:Nat.blt b c=true:=by rw[aG];exact q
 simp only[o,cH,Bool.false_or,bR,bP]at a
 rcases a with(a|a)|a
 ·exfalso
  rcases s with⟨l,i⟩|⟨l,i|i⟩<;>simp[l,i]at a
 ·exact .inl a
 ·exact .inr a
def lM(c:List (Nat×Nat))(f b:Nat)(d:List (Nat×H×H)):Prop:=∀a∈d,yz c a.1 f=true->dY a.2.1 a.2.2 b=true
def uK(b:List (Nat×Nat))(d:Nat)(h c:H)(f:List (Nat×Nat)):Prop:=∀a∈f,yz b a.1 d=true->dY h c a.2=true
@[simp] theorem Uo (b:List (Nat×Nat)) (c a:Nat):lM b c a []=True:=by simp[lM]
@[simp] theorem SN (b:List (Nat×Nat)) (c a g:Nat) (h f:H) (d:List (Nat×H×H)):lM b c a ((g,h,f)::d)=((yz b g c=true->dY h f a=true)/\lM b c a d):=by simp[lM]
@[simp] theorem WN (a:List (Nat×Nat)) (c:Nat) (h b:H):uK a c h b []=True:=by simp[uK]
@[simp] theorem UT (a:List (Nat×Nat)) (c f d:Nat) (h b:H) (g:List (Nat×Nat)):uK a c h b ((f,d)::g)=((yz a f c=true->dY h b d=true)/\uK a c h b g):=by simp[uK]
open Classical in
def vO(cx:Ctx)(cf:ir)(mask:Nat)(g:af Oper)(b:List (Nat×Nat)):List Oper->Nat->List (Nat×Nat)->List (Nat×H×H)->Env->H->aa (Env×H)
 | [],_,_,_,e,h=>some (e,h)
 |o::k,a,f,c,e,h=>dB (kK cx cf mask g e h o) λm=>two m λj d=>
  dB (jU g mask e o.guard) λr=>
   if r=true then
    if fZ o.op=true then
     if uK b a h d f/\(∀p l q i,o.op= .store p l q->dB (eJ cx mask e l) dE=some i->lM b a i c)then
      vO cx cf mask g b k (a+1) f (if kM b a=true then(a,h,d)::c else c) j d else none
    else match fk cx mask e h o.op with
     |none=>vO cx cf mask g b k (a+1) f c j d
     |some i=>if lM b a i c then vO cx cf mask g b k (a+1) (if kM b a=true then(a,i)::f else f) c j d else none
   else vO cx cf mask g b k (a+1) f c j d
section
variable {cx:Ctx}{cf:ir}{n mask:Nat}
theorem E5{s:List (Nat×Nat)}{f:af Oper}(K:Qy s f=true):∀(l:List Oper) (b:Nat) (v:List (Nat×Nat)) (r:List (Nat×H×H)) (g:Seen) (e:Env) (h:H) (p:Env×H),(∀q,l[q]? =f[b+q]?)->
 (∀a∈g.ly,a.1<b/\(∃d,f[a.1]? =some d/\ry d.op=true)/\(kM s a.1=true->a∈v))->
 (∀a∈g.kt,a.1<b/\(∃d,f[a.1]? =some d/\fZ d.op=true)/\(kM s a.1=true->a∈r))->
 vO cx cf mask f s l b v r e h=some p->jx cx cf mask f l b g e h=some p:=by
 intro l
 induction l with
 |nil=>intro b v r g e h p _ _ _ c;exact c
 |cons d l D=>
  intro b v r g e h p hl G F c
  have A:f[b]? =some d:=by have:=hl 0;simpa using this.symm
  have B:∀q,l[q]? =f[b+1+q]? :=λq=>by
   have:=hl (q+1)
   simp only[cZ]at this
   rw[this];congr 1;omega
  show(dB (kK cx cf mask f e h d) λa=>two a λm i=>
   dB (jU f mask e d.guard) λX=> @Bool.rec (λ_=>aa (Env×H)) (jx cx cf mask f l (b+1) g m i)
    (@Bool.rec (λ_=>aa (Env×H))
      (@Option.rec Nat (λ_=>aa (Env×H)) (jx cx cf mask f l (b+1) g m i)
        (λj=>fy (nh f b j g.kt) (jx cx cf mask f l (b+1) ⟨(b,j)::g.ly,g.kt⟩ m i)) (fk cx mask e h d.op))
      (fy (v8 f b h i g.ly) (fy (pR cx mask f b e g.kt d.op) (jx cx cf mask f l (b+1) ⟨g.ly,(b,h,i)::g.kt⟩ m i))) (fZ d.op)) X)=some p
  unfold vO at c
  obtain⟨⟨m,i⟩,S,c⟩:=dj.1 c
  simp only[jX]at c
  obtain⟨W,T,c⟩:=dj.1 c
  rw[S,dD,jX,T,dD]
  have C:∀a∈g.ly,a.1<b+1/\(∃d,f[a.1]? =some d/\ry d.op=true)/\(kM s a.1=true->a∈v):=λa hp=>⟨by have:=(G a hp).1;omega,(G a hp).2⟩
  have z:∀a∈g.kt,a.1<b+1/\(∃d,f[a.1]? =some d/\fZ d.op=true)/\(kM s a.1=true->a∈r):=λa hp=>⟨by have:=(F a hp).1;omega,(F a hp).2⟩
  have lk:∀j,(ry d.op=true\/fZ d.op=true)->lM s b j r->nh f b j g.kt=true:=by
   intro j Q w
   unfold nh
   rw[xR,cu]
   intro a hp
   obtain⟨t,⟨U,u,o⟩,J⟩:=F a hp
   show @Bool.rec (λ_=>Bool) (jg f a.1 b) true (dY a.2.1 a.2.2 j)=true
   rcases BI K u A t (.inr ⟨o,Q⟩)with I|y
   ·rw[I];cases dY a.2.1 a.2.2 j<;>rfl
   ·rw[w a (J (C3 y)) y]
  cases W with
  |false=>simp only[ci,bm]at c;exact D (b+1) v r g m i p B C z c
  |true=>
   simp only[aY]at c
   cases x:fZ d.op with
   |true=>
    rw[x]at c
    simp only[aY]at c
    split at c
    ·rename_i w
     have N:v8 f b h i g.ly=true:=by
      unfold v8
      rw[xR,cu]
      intro a hp
      obtain⟨t,⟨U,u,o⟩,J⟩:=G a hp
      show @Bool.rec (λ_=>Bool) (jg f a.1 b) true (dY h i a.2)=true
      rcases BI K u A t (.inl ⟨o,x⟩)with I|y
      ·rw[I];cases dY h i a.2<;>rfl
      ·rw[w.1 a (J (C3 y)) y]
     have O:pR cx mask f b e g.kt d.op=true:=by
      unfold pR
      split
      ·rename_i q M V R
       cases P:dB (eJ cx mask e M) dE with
       |none=>rfl
       |some j=>exact lk j (.inr x) (w.2 q M V j R P)
      ·rfl
     simp only[N,O,fO]
     refine D (b+1) _ _ _ m i p B C (λa hp=> ?_) c
     rcases List.mem_cons.1 hp with rfl|hp
     ·refine⟨by simp,⟨d,A,x⟩,λk=> ?_⟩
      simp only at k
      rw[aq k];exact db ..
     ·obtain⟨t,u,o⟩:=z a hp
      refine⟨t,u,λk=> ?_⟩
      split
      ·exact cw _ (o k)
      ·exact o k
    ·simp at c
   |false=>
    rw[x]at c
    simp only[ci,bm]at c
    simp only
    cases E:fk cx mask e h d.op with
    |none=>rw[E]at c;exact D (b+1) v r g m i p B C z c
    |some j=>
     rw[E]at c
     simp only at c
     split at c
     ·rename_i w
      have L:=FN E
      simp only[lk j (.inl L) w,fO]
      refine D (b+1) _ _ _ m i p B (λa hp=> ?_) z c
      rcases List.mem_cons.1 hp with rfl|hp
      ·refine⟨by simp,⟨d,A,L⟩,λk=> ?_⟩
       simp only at k
       rw[aq k];exact db ..
      ·obtain⟨t,u,o⟩:=C a hp
       refine⟨t,u,λk=> ?_⟩
       split
       ·exact cw _ (o k)
       ·exact o k
     ·simp at c
abbrev DL:=List (Nat×List (Nat×Nat))
def L3(cx:Ctx)(cf:ir)(mask:Nat)(dl:DL)(id:Nat)(a:af Oper)(e:Env)(h:H):Out:=
 match dl.lookup id with
 |none=>dB (j2 cx cf mask a a.toList ⟨e.vars,.nil⟩ h) λd=>two d λb c=>some (.normal,⟨b.vars,.nil⟩,c)
 |some f=>dB (vO cx cf mask a f a.toList 0 [] [] ⟨e.vars,.nil⟩ h) λd=>two d λb c=>some (.normal,⟨b.vars,.nil⟩,c)
def iZ(cx:Ctx)(cf:ir)(b mask:Nat)(dl:DL):Code->Env->H->Out
 | .skip=>λe h=>some (.normal,e,h)
 | .region id f _=>L3 cx cf mask dl id f
 | .seq c a=>AF (iZ cx cf b mask dl c) (iZ cx cf b mask dl a)
 | .cond d c a=>Gy cx mask d (iZ cx cf b mask dl c) (iZ cx cf b mask dl a)
 | .block id a=>wV id (iZ cx cf b mask dl a)
 | .loop a=>ni (iZ cx cf b mask dl a) b
 | .exit id=>λe h=>some (.exit id,e,h)
 | .ret=>λe h=>some (.ret,e,h)
 |_=>λ_ _=>none
def lU(dl:DL):Code->Bool
 | .region id d c=>(match dl.lookup id with|none=> !c||I3 d|some f=>c&&Qy f d)
 | .seq a b=>lU dl a&&lU dl b
 | .cond _ a b=>lU dl a&&lU dl b
 | .block _ a=>lU dl a
 | .loop a=>lU dl a
 |_=>true
theorem pi{dl:DL}:∀(p:Code),lU dl p=true->∀e h b,iZ cx cf n mask dl p e h=some b->jy cx cf n mask p e h=some b:=by
 intro p
 induction p with
 |region id k A=>
  intro c e h b a
  obtain⟨s,E⟩:=e
  replace a:L3 cx cf mask dl id k ⟨s,E⟩ h=some b:=a
  unfold L3 at a
  simp only[lU]at c
  cases hl:dl.lookup id with
  |none=>
   rw[hl]at a c
   simp only at a c
   cases A with
   |false=>exact a
   |true=>
    simp only[cH,Bool.false_or]at c
    show(dB (jx cx cf mask k k.toList 0 ⟨[],[]⟩ ⟨s,.nil⟩ h) λb=>two b λf g=>some (Ex.normal,(⟨f.vars,.nil⟩:Env),g))=some b
    rw[Do c k.toList 0 ⟨[],[]⟩ ⟨s,.nil⟩ h (λy=>by simp) (λm i=>by simp at i) (λm i=>by simp at i)]
    exact a
  |some G=>
   rw[hl]at a c
   simp only[ay]at a c
   obtain⟨rfl,c⟩:=c
   obtain⟨m,i,a⟩:=dj.1 a
   show(dB (jx cx cf mask k k.toList 0 ⟨[],[]⟩ ⟨s,.nil⟩ h) λb=>two b λf g=>some (Ex.normal,(⟨f.vars,.nil⟩:Env),g))=some b
   rw[E5 c k.toList 0 [] [] ⟨[],[]⟩ ⟨s,.nil⟩ h m (λy=>by simp) (λm i=>by simp at i) (λm i=>by simp at i) i,dD]
   exact a
 |seq d o w x=>
  intro c e h b a
  simp only[lU,ay]at c
  have a:AF (iZ cx cf n mask dl d) (iZ cx cf n mask dl o) e h=some b:=a
  show AF (jy cx cf n mask d) (jy cx cf n mask o) e h=some b
  unfold AF at*
  obtain⟨⟨l,t,u⟩,q,a⟩:=dj.1 a
  rw[w c.1 e h _ q,dD]
  simp only[km]at*
  cases l with
  |normal=>exact x c.2 t u b a
  |exit r=>exact a
  |ret=>exact a
 |cond z d o w x=>
  intro c e h b a
  simp only[lU,ay]at c
  have a:Gy cx mask z (iZ cx cf n mask dl d) (iZ cx cf n mask dl o) e h=some b:=a
  show Gy cx mask z (jy cx cf n mask d) (jy cx cf n mask o) e h=some b
  unfold Gy at*
  obtain⟨F,B,a⟩:=dj.1 a
  rw[B,dD]
  cases F<;>first|exact a|skip
  rename_i y
  cases y with
  |true=>exact w c.1 e h b a
  |false=>exact x c.2 e h b a
 |block id d v=>
  intro c e h b a
  simp only[lU]at c
  have a:wV id (iZ cx cf n mask dl d) e h=some b:=a
  show wV id (jy cx cf n mask d) e h=some b
  unfold wV at*
  obtain⟨m,q,a⟩:=dj.1 a
  rw[v c e h _ q,dD];exact a
 |loop d v=>
  intro c e h b a
  simp only[lU]at c
  have D:∀j e h b,ni (iZ cx cf n mask dl d) j e h=some b->ni (jy cx cf n mask d) j e h=some b:=by
   intro j
   induction j with
   |zero=>intro e h b a;simp[ni]at a
   |succ j C=>
    intro e h b a
    have a:(dB (iZ cx cf n mask dl d e h) λb=>three b λl f g=> @Ex.rec (λ_=>Out) (ni (iZ cx cf n mask dl d) j f g) (λr=>some (.exit r,f,g)) (some (.ret,f,g)) l)=some b:=a
    show(dB (jy cx cf n mask d e h) λb=>three b λl f g=> @Ex.rec (λ_=>Out) (ni (jy cx cf n mask d) j f g) (λr=>some (.exit r,f,g)) (some (.ret,f,g)) l)=some b
    obtain⟨⟨l,t,u⟩,q,a⟩:=dj.1 a
    rw[v c e h _ q,dD]
    simp only[km]at*
    cases l with
    |normal=>exact C t u b a
    |exit r=>exact a
    |ret=>exact a
  exact D n e h b a
 |_=>intro _ e h b a;first|exact a|(simp[iZ]at a)
def WR(cx:Ctx)(cf:ir)(mask:Nat)(f:af Oper)(d:List Oper)(i g:eZ)(h:H)(c:eZ->H->Prop):Prop:=
 ∃a b,j2 cx cf mask f d ⟨i,g⟩ h=some (a,b)/\c a.vars b
def WX(c:aa (T×H))(b:T->H->Prop):Prop:=∃a h,c=some (a,h)/\b a h
@[simp] theorem xU (b:T) (h:H) (d:T->H->Prop):WX (some (b,h)) d=d b h:=by
 apply propext;constructor
 ·rintro⟨g,f,c,a⟩
  simp only[ar,ax]at c
  obtain⟨rfl,rfl⟩:=c;exact a
 ·exact λa=>⟨b,h,rfl,a⟩
def WD(mask:Nat)(g:aa Tmp)(f:T)(d c:eZ)(a:eZ->eZ->Prop):Prop:=match g with
 |none=>a d c
 |some b=>if jJ mask b=true then a (put d b f) c else a d (.cons b f c)
theorem Bb(a b:Nat):(jJ a b=true)=((a>>>b)&&&1=1):=by
 apply propext
 show Nat.beq ((a>>>b)&&&1) 1=true↔_
 exact⟨aC,λh=>by rw[h];rfl⟩
theorem EQ(a:Tmp)(d:T)(f c:eZ)(b:eZ->eZ->Prop):WD mask (some a) d f c b=if(mask>>>a)&&&1=1 then b (put f a d) c else b f (.cons a d c):=by
 unfold WD;simp only[Bb]
theorem OP(i:af Oper)(b d:eZ)(h:H)(f:eZ->H->Prop):WR cx cf mask i [] b d h f=f b h:=by
 apply propext;constructor
 ·rintro⟨e,g,a,c⟩
  have a:some ((⟨b,d⟩:Env),h)=some (e,g):=a
  simp only[ar,ax]at a
  obtain⟨rfl,rfl⟩:=a;exact c
 ·exact λc=>⟨⟨b,d⟩,h,rfl,c⟩
theorem EP(l:af Oper)(k:Oper)(j:List Oper)(b a:eZ)(h:H)(q:eZ->H->Prop):
 WR cx cf mask l (k::j) b a h q=WX (xa cx cf mask l ⟨b,a⟩ h k) λc d=>WD mask k.dst c b a λb a=>WR cx cf mask l j b a d q:=by
 have u:∀c d,(∃f,Env.dst mask ⟨b,a⟩ k.dst c=some f/\WR cx cf mask l j f.vars f.tmps d q)↔WD mask k.dst c b a λb a=>WR cx cf mask l j b a d q:=by
  intro c d
  cases x:k.dst with
  |none=>
   constructor
   ·rintro⟨f,g,p⟩
    have g:some (⟨b,a⟩:Env)=some f:=g
    simp only[ar]at g;subst g;exact p
   ·exact λp=>⟨_,rfl,p⟩
  |some m=>
   have hE:Env.dst mask ⟨b,a⟩ (some m) c=some (if jJ mask m=true then⟨put b m c,a⟩else⟨b,.cons m c a⟩):=by
    show @Bool.rec (λ_=>aa Env) (some ⟨b,.cons m c a⟩) (dB (kT b m c) λj=>some ⟨j,a⟩) (jJ mask m)=_
    rw[oh]
    cases jJ mask m<;>rfl
   rw[hE]
   unfold WD
   simp only[ar,exists_eq_left']
   split<;>rfl
 apply propext
 have v:j2 cx cf mask l (k::j) ⟨b,a⟩ h=dB (kK cx cf mask l ⟨b,a⟩ h k) λw=>two w λo d=>j2 cx cf mask l j o d:=rfl
 unfold WR
 rw[v,pS]
 constructor
 ·rintro⟨o,d,i,s⟩
  obtain⟨⟨c,r⟩,t,i⟩:=dj.1 i
  simp only[jX]at i
  obtain⟨f,g,i⟩:=dj.1 i
  exact⟨c,r,t,(u c r).1 ⟨f,g,o,d,i,s⟩⟩
 ·rintro⟨c,r,t,p⟩
  obtain⟨f,g,o,d,i,s⟩:=(u c r).2 p
  refine⟨o,d,?_,s⟩
  rw[t,dD,jX,g,dD];exact i
theorem aar(f:af Oper)(g:aa Tmp)(i:Op)(m:ab)(l:String)(j:af Edge)(d:List Oper)(b a:eZ)(h:H)(c:eZ->H->Prop):
 WR cx cf mask f (⟨g,i,m,l,j,none⟩::d) b a h c=WX (fin cf h (iO i cx mask ⟨b,a⟩ h)) λo k=>WD mask g o b a λb a=>WR cx cf mask f d b a k c:=EP f _ d b a h c
def WG(c:aa Bool)(a b:Prop):Prop:=match c with|some true=>a|some false=>b|none=>False
theorem J4(a b:Prop):WG (some true) a b=a:=rfl
theorem G5(b a:Prop):WG (some false) b a=a:=rfl
theorem OQ(c:af Oper)(i:aa Tmp)(k:Op)(r:ab)(q:String)(o:af Edge)(f:Nat)(d:Bool)(j:List Oper)(b a:eZ)(h:H)(g:eZ->H->Prop):
 WR cx cf mask c (⟨i,k,r,q,o,some (f,d)⟩::j) b a h g=WG (jU c mask ⟨b,a⟩ (some (f,d)))
  (WX (fin cf h (iO k cx mask ⟨b,a⟩ h)) λm l=>WD mask i m b a λb a=>WR cx cf mask c j b a l g)
  (WD mask i .undef b a λb a=>WR cx cf mask c j b a h g):=by
 rw[EP]
 show WX (dB (jU c mask ⟨b,a⟩ (some (f,d))) λt=> @Bool.rec (λ_=>aa (T×H)) (some (.undef,h)) (fin cf h (iO k cx mask ⟨b,a⟩ h)) t) _=_
 cases jU c mask ⟨b,a⟩ (some (f,d))with
 |none=>apply propext;constructor<;>(first|(rintro⟨m,l,p,_⟩;simp[dB]at p)|exact False.elim)
 |some s=>cases s<;>simp[J4,G5]
def IV(a:aa T)(b:Bool):aa Bool:=dB a λa=>match a with| .bool c=>some (c==b)|_=>some false
@[simp] theorem As (b a:Bool):IV (some (.bool b)) a=some (b==a):=rfl
@[simp] theorem Q7 (a:Bool):IV (some .undef) a=some false:=rfl
@[simp] theorem At (d:List Oper) (e:Env) (c:Nat) (f:Bool):jU d.toArray mask e (some (c,f))=IV (dB (dB (d[c]?) λb=>b.dst) λa=>e.get mask a) f:=by
 show(dB (dB (dB (kW d.toArray.toList c) λb=>b.dst) λa=>e.get mask a) λg=>_)=_
 rw[j9]
 unfold IV
 simp only
 cases (dB (dB (d[c]?) λb=>b.dst) λa=>e.get mask a)with
 |none=>rfl
 |some g=>cases g<;>first|rfl|(rename_i i;cases i<;>cases f<;>rfl)
@[simp] theorem Af (c b:eZ) (a:Nat):Env.get mask ⟨c,b⟩ a=if(mask>>>a)&&&1=1 then dt c a else dt b a:=by
 show @Bool.rec (λ_=>aa T) (dt b a) (dt c a) (jJ mask a)=_
 simp only[<-Bb]
 cases jJ mask a<;>rfl
def IN(cx:Ctx)(cf:ir)(mask:Nat)(k:af Oper)(d:List (Nat×Nat))(i:List Oper)(g:Nat)(j:List (Nat×Nat))(f:List (Nat×H×H))(m l:eZ)(h:H)(c:eZ->H->Prop):Prop:=
 ∃a b,vO cx cf mask k d i g j f ⟨m,l⟩ h=some (a,b)/\c a.vars b
theorem J3(m:af Oper)(g:List (Nat×Nat))(k:Nat)(l:List (Nat×Nat))(i:List (Nat×H×H))(b d:eZ)(h:H)(f:eZ->H->Prop):IN cx cf mask m g [] k l i b d h f=f b h:=by
 apply propext;constructor
 ·rintro⟨e,j,a,c⟩
  have a:some ((⟨b,d⟩:Env),h)=some (e,j):=a
  simp only[ar,ax]at a
  obtain⟨rfl,rfl⟩:=a;exact c
 ·exact λc=>⟨⟨b,d⟩,h,rfl,c⟩
def DK(cx:Ctx)(mask:Nat)(d:List (Nat×Nat))(a:Nat)(f:List (Nat×Nat))(b:List (Nat×H×H))(i:Op)(e:Env)(h j:H)(g:List (Nat×Nat)->List (Nat×H×H)->Prop):Prop:=
 if fZ i=true then(uK d a h j f/\(∀l k m c,i= .store l k m->dB (eJ cx mask e k) dE=some c->lM d a c b))/\g f (if kM d a=true then(a,h,j)::b else b)
 else match fk cx mask e h i with
  |none=>g f b
  |some c=>lM d a c b/\g (if kM d a=true then(a,c)::f else f) b
theorem G4(u:af Oper)(y:List (Nat×Nat))(j:Oper)(x:List Oper)(z:Nat)(q:List (Nat×Nat))(p:List (Nat×H×H))(b a:eZ)(h:H)(A:eZ->H->Prop):
 IN cx cf mask u y (j::x) z q p b a h A=WG (jU u mask ⟨b,a⟩ j.guard)
  (WX (fin cf h (iO j.op cx mask ⟨b,a⟩ h)) λk c=>DK cx mask y z q p j.op ⟨b,a⟩ h c λq p=>WD mask j.dst k b a λb a=>IN cx cf mask u y x (z+1) q p b a c A)
  (WD mask j.dst .undef b a λb a=>IN cx cf mask u y x (z+1) q p b a h A):=by
 have t:∀k c (q:List (Nat×Nat)) (p:List (Nat×H×H)),(∃i,Env.dst mask ⟨b,a⟩ j.dst k=some i/\IN cx cf mask u y x (z+1) q p i.vars i.tmps c A)↔WD mask j.dst k b a λb a=>IN cx cf mask u y x (z+1) q p b a c A:=by
  intro k c q p
  cases J:j.dst with
  |none=>
   constructor
   ·rintro⟨i,f,r⟩
    have f:some (⟨b,a⟩:Env)=some i:=f
    simp only[ar]at f;subst f;exact r
   ·exact λr=>⟨_,rfl,r⟩
  |some v=>
   have hE:Env.dst mask ⟨b,a⟩ (some v) k=some (if jJ mask v=true then⟨put b v k,a⟩else⟨b,.cons v k a⟩):=by
    show @Bool.rec (λ_=>aa Env) (some ⟨b,.cons v k a⟩) (dB (kT b v k) λx=>some ⟨x,a⟩) (jJ mask v)=_
    rw[oh]
    cases jJ mask v<;>rfl
   rw[hE]
   unfold WD
   simp only[ar,exists_eq_left']
   split<;>rfl
 apply propext
 constructor
 ·rintro⟨l,c,m,o⟩
  unfold vO at m
  rw[pS]at m
  obtain⟨⟨k,D⟩,s,E⟩:=dj.1 m
  simp only[jX]at E
  obtain⟨i,f,F⟩:=dj.1 E
  obtain⟨C,r,g⟩:=dj.1 F
  clear m E F
  unfold xa at s
  rw[r,dD]at s
  rw[r]
  cases C with
  |false=>
   replace s:some (T.undef,h)=some (k,D):=s
   simp only[ar,ax]at s
   obtain⟨rfl,rfl⟩:=s
   simp only[ci,bm]at g
   exact(t _ _ q p).1 ⟨i,f,l,c,g,o⟩
  |true=>
   simp only[aY]at g
   refine⟨k,D,s,?_⟩
   unfold DK
   split
   ·rename_i hE
    rw[aq hE]at g
    split at g
    ·rename_i w
     exact⟨w,(t _ _ _ _).1 ⟨i,f,l,c,g,o⟩⟩
    ·simp at g
   ·rename_i hE
    rw[ao hE]at g
    cases B:fk cx mask ⟨b,a⟩ h j.op with
    |none=>rw[B]at g;exact(t _ _ _ _).1 ⟨i,f,l,c,g,o⟩
    |some I=>
     rw[B]at g
     simp only at g
     split at g
     ·rename_i w
      exact⟨w,(t _ _ _ _).1 ⟨i,f,l,c,g,o⟩⟩
     ·simp at g
 ·intro d
  unfold IN vO
  rw[pS]
  cases r:jU u mask ⟨b,a⟩ j.guard with
  |none=>rw[r]at d;exact d.elim
  |some C=>
   rw[r]at d
   have G:xa cx cf mask u ⟨b,a⟩ h j= @Bool.rec (λ_=>aa (T×H)) (some (.undef,h)) (fin cf h (iO j.op cx mask ⟨b,a⟩ h)) C:=by
    unfold xa;rw[r,dD]
   cases C with
   |false=>
    obtain⟨i,f,l,c,m,o⟩:=(t _ _ q p).2 d
    refine⟨l,c,?_,o⟩
    rw[G]
    simp only[dD,jX,f]
    exact m
   |true=>
    obtain⟨k,D,s,d⟩:=d
    rw[G]
    simp only[s,dD,jX,aY]
    unfold DK at d
    split at d
    ·rename_i hE
     obtain⟨w,d⟩:=d
     obtain⟨i,f,l,c,m,o⟩:=(t _ _ _ _).2 d
     refine⟨l,c,?_,o⟩
     rw[f,dD,aq hE,aq w];exact m
    ·rename_i hE
     cases B:fk cx mask ⟨b,a⟩ h j.op with
     |none=>
      rw[B]at d
      obtain⟨i,f,l,c,m,o⟩:=(t _ _ _ _).2 d
      refine⟨l,c,?_,o⟩
      rw[f,dD,ao hE];exact m
     |some I=>
      rw[B]at d
      obtain⟨w,d⟩:=d
      obtain⟨i,f,l,c,m,o⟩:=(t _ _ _ _).2 d
      refine⟨l,c,?_,o⟩
      rw[f,dD,ao hE]
      simp only
      rw[aq w];exact m
theorem VA(l:af Oper)(f:List (Nat×Nat))(m:aa Tmp)(k:Op)(r:ab)(q:String)(p:af Edge)(j:List Oper)(g:Nat)(d:List (Nat×Nat))(c:List (Nat×H×H))(b a:eZ)(h:H)(i:eZ->H->Prop):
 IN cx cf mask l f (⟨m,k,r,q,p,none⟩::j) g d c b a h i=
  WX (fin cf h (iO k cx mask ⟨b,a⟩ h)) λs o=>DK cx mask f g d c k ⟨b,a⟩ h o λd c=>WD mask m s b a λb a=>IN cx cf mask l f j (g+1) d c b a o i:=G4 l f _ j g d c b a h i
def RK(cx:Ctx)(cf:ir)(mask:Nat)(d:af Oper)(c:List Oper)(a f:eZ)(h:H)(b:gU):Prop:=WR cx cf mask d c a f h λa h=>b.n ⟨a,.nil⟩ h
def XK(k:aa (T×H))(cx:Ctx)(cf:ir)(mask:Nat)(i:af Oper)(d:aa Tmp)(g:List Oper)(b a:eZ)(c:gU):Prop:=WX k λj f=>WD mask d j b a λb a=>RK cx cf mask i g b a f c
def GK(j:aa Bool)(cx:Ctx)(cf:ir)(mask:Nat)(g:af Oper)(d:aa Tmp)(i:Op)(f:List Oper)(b a:eZ)(h:H)(c:gU):Prop:=
 WG j (XK (fin cf h (iO i cx mask ⟨b,a⟩ h)) cx cf mask g d f b a c) (WD mask d .undef b a λb a=>RK cx cf mask g f b a h c)
@[simp] theorem aeq (c:af Oper) (a d:eZ) (h:H) (b:gU):RK cx cf mask c [] a d h b=b.n ⟨a,.nil⟩ h:=OP c a d h _
@[simp] theorem ae5 (g:af Oper) (c:aa Tmp) (f:Op) (l:ab) (k:String) (j:af Edge) (d:List Oper) (b a:eZ) (h:H) (i:gU):
 RK cx cf mask g (⟨c,f,l,k,j,none⟩::d) b a h i=XK (fin cf h (iO f cx mask ⟨b,a⟩ h)) cx cf mask g c d b a i:=aar g c f l k j d b a h _
@[simp] theorem ei (a:af Oper) (f:aa Tmp) (j:Op) (o:ab) (m:String) (l:af Edge) (g:Nat) (d:Bool) (i:List Oper) (c b:eZ) (h:H) (k:gU):
 RK cx cf mask a (⟨f,j,o,m,l,some (g,d)⟩::i) c b h k=GK (jU a mask ⟨c,b⟩ (some (g,d))) cx cf mask a f j i c b h k:=OQ a f j o m l g d i c b h _
@[simp] theorem acr (g:T) (h:H) (c:af Oper) (b:List Oper) (f d:eZ) (a:gU):XK (some (g,h)) cx cf mask c none b f d a=RK cx cf mask c b f d h a:=by
 unfold XK;rw[xU];rfl
@[simp] theorem acq (g:T) (h:H) (d:af Oper) (a:Tmp) (c:List Oper) (i f:eZ) (b:gU):XK (some (g,h)) cx cf mask d (some a) c i f b=
 if(mask>>>a)&&&1=1 then RK cx cf mask d c (put i a g) f h b else RK cx cf mask d c i (.cons a g f) h b:=by
 unfold XK;rw[xU,EQ]
@[simp] theorem acH (i:af Oper) (d:aa Tmp) (g:Op) (f:List Oper) (b a:eZ) (h:H) (c:gU):GK (some true) cx cf mask i d g f b a h c=XK (fin cf h (iO g cx mask ⟨b,a⟩ h)) cx cf mask i d f b a c:=id rfl
@[simp] theorem aax (g:af Oper) (c:Tmp) (i:Op) (f:List Oper) (b a:eZ) (h:H) (d:gU):GK (some false) cx cf mask g (some c) i f b a h d=if(mask>>>c)&&&1=1 then RK cx cf mask g f (put b c .undef) a h d else RK cx cf mask g f b (.cons c .undef a) h d:=by
 show WD mask (some c) .undef b a (λb a=>RK cx cf mask g f b a h d)=_
 rw[EQ]
@[simp] theorem Xc (c:af Oper) (g:Op) (b:List Oper) (f d:eZ) (h:H) (a:gU):GK (some false) cx cf mask c none g b f d h a=RK cx cf mask c b f d h a:=id rfl
def Ki(cx:Ctx)(mask:Nat)(b:List (Nat×Nat))(d:Nat)(c:List (Nat×H×H))(f:Op)(e:Env):Prop:=match f with
 | .store _ g _=>(match dB (eJ cx mask e g) dE with|some a=>lM b d a c|none=>True)
 |_=>True
def Ov(b:List (Nat×Nat))(d:Nat)(c:List (Nat×H×H))(f:aa Nat):Prop:=match f with|some a=>lM b d a c|none=>True
@[simp] theorem Vv (a:List (Nat×Nat)) (c:Nat) (b:List (Nat×H×H)):Ov a c b none=True:=id rfl
@[simp] theorem Vu (b:List (Nat×Nat)) (d:Nat) (c:List (Nat×H×H)) (a:Nat):Ov b d c (some a)=lM b d a c:=id rfl
@[simp] theorem AA (a:List (Nat×Nat)) (c:Nat) (b:List (Nat×H×H)) (f:ab) (d g:ah) (e:Env):Ki cx mask a c b (.store f d g) e=Ov a c b (dB (eJ cx mask e d) dE):=id rfl
@[simp] theorem VS (b:List (Nat×Nat)) (d:Nat) (c:List (Nat×H×H)) (a:Call) (e:Env):Ki cx mask b d c (.call a) e=True:=id rfl
@[simp] theorem XZ (d:List (Nat×Nat)) (g:Nat) (f:List (Nat×H×H)) (i:ab) (a b c:ah) (e:Env):Ki cx mask d g f (.mapUpdate i a b c) e=True:=id rfl
def Pe(cx:Ctx)(cf:ir)(mask:Nat)(j:af Oper)(c:List (Nat×Nat))(g:List Oper)(f:Nat)(i:List (Nat×Nat))(d:List (Nat×H×H))(a k:eZ)(h:H)(b:gU):Prop:=IN cx cf mask j c g f i d a k h λa h=>b.n ⟨a,.nil⟩ h
def Lv(q:aa (T×H))(cx:Ctx)(cf:ir)(mask:Nat)(o:af Oper)(f:List (Nat×Nat))(k:aa Tmp)(m:Op)(l:List Oper)(i:Nat)(d:List (Nat×Nat))(c:List (Nat×H×H))(b a:eZ)(h:H)(j:gU):Prop:=
 WX q λp g=>DK cx mask f i d c m ⟨b,a⟩ h g λd c=>WD mask k p b a λb a=>Pe cx cf mask o f l (i+1) d c b a g j
def DGK(o:aa Bool)(cx:Ctx)(cf:ir)(mask:Nat)(m:af Oper)(d:List (Nat×Nat))(f:aa Tmp)(l:Op)(j:List Oper)(i:Nat)(k:List (Nat×Nat))(g:List (Nat×H×H))(b a:eZ)(h:H)(c:gU):Prop:=
 WG o (Lv (fin cf h (iO l cx mask ⟨b,a⟩ h)) cx cf mask m d f l j i k g b a h c) (WD mask f .undef b a λb a=>Pe cx cf mask m d j (i+1) k g b a h c)
def OY(m:T)(cx:Ctx)(cf:ir)(mask:Nat)(l:af Oper)(d:List (Nat×Nat))(f:aa Tmp)(j:List Oper)(i:Nat)(k:List (Nat×Nat))(g:List (Nat×H×H))(b a:eZ)(h:H)(c:gU):Prop:=WD mask f m b a λb a=>Pe cx cf mask l d j i k g b a h c
def DLK(p:aa Nat)(m:T)(cx:Ctx)(cf:ir)(mask:Nat)(k:af Oper)(b:List (Nat×Nat))(i:aa Tmp)(j:List Oper)(a:Nat)(d:List (Nat×Nat))(c:List (Nat×H×H))(o l:eZ)(h:H)(f:gU):Prop:=match p with
 |none=>OY m cx cf mask k b i j (a+1) d c o l h f
 |some g=>lM b a g c/\OY m cx cf mask k b i j (a+1) (if kM b a=true then(a,g)::d else d) c o l h f
@[simp] theorem aaE (l:T) (j:af Oper) (b:List (Nat×Nat)) (c:aa Tmp) (g:List Oper) (f:Nat) (i:List (Nat×Nat)) (d:List (Nat×H×H)) (m k:eZ) (h:H) (a:gU):DLK none l cx cf mask j b c g f i d m k h a=OY l cx cf mask j b c g (f+1) i d m k h a:=id rfl
@[simp] theorem OZ (c:Nat) (m:T) (k:af Oper) (b:List (Nat×Nat)) (i:aa Tmp) (j:List Oper) (a:Nat) (f:List (Nat×Nat)) (d:List (Nat×H×H)) (o l:eZ) (h:H) (g:gU):DLK (some c) m cx cf mask k b i j a f d o l h g=(lM b a c d/\OY m cx cf mask k b i j (a+1) (if kM b a=true then(a,c)::f else f) d o l h g):=id rfl
@[simp] theorem aaD (l:T) (i:af Oper) (b:List (Nat×Nat)) (f:List Oper) (d:Nat) (g:List (Nat×Nat)) (c:List (Nat×H×H)) (k j:eZ) (h:H) (a:gU):OY l cx cf mask i b none f d g c k j h a=Pe cx cf mask i b f d g c k j h a:=id rfl
@[simp] theorem aaC (l:T) (j:af Oper) (c:List (Nat×Nat)) (a:Tmp) (g:List Oper) (f:Nat) (i:List (Nat×Nat)) (d:List (Nat×H×H)) (m k:eZ) (h:H) (b:gU):OY l cx cf mask j c (some a) g f i d m k h b=
 if(mask>>>a)&&&1=1 then Pe cx cf mask j c g f i d (put m a l) k h b else Pe cx cf mask j c g f i d m (.cons a l k) h b:=by unfold OY;rw[EQ]
@[simp] theorem acO (i:af Oper) (c:List (Nat×Nat)) (f:Nat) (g:List (Nat×Nat)) (d:List (Nat×H×H)) (a j:eZ) (h:H) (b:gU):Pe cx cf mask i c [] f g d a j h b=b.n ⟨a,.nil⟩ h:=J3 i c f g d a j h _
@[simp] theorem aeu (l:af Oper) (d:List (Nat×Nat)) (f:aa Tmp) (a:Op) (q:ab) (p:String) (o:af Edge) (j:List Oper) (i:Nat) (k:List (Nat×Nat)) (g:List (Nat×H×H)) (c b:eZ) (h:H) (m:gU):
 Pe cx cf mask l d (⟨f,a,q,p,o,none⟩::j) i k g c b h m=Lv (fin cf h (iO a cx mask ⟨c,b⟩ h)) cx cf mask l d f a j i k g c b h m:=VA l d f a q p o j i k g c b h _
@[simp] theorem aaG (m:af Oper) (f:List (Nat×Nat)) (g:aa Tmp) (a:Op) (k:List Oper) (j:Nat) (l:List (Nat×Nat)) (i:List (Nat×H×H)) (c b:eZ) (h:H) (d:gU):DGK (some true) cx cf mask m f g a k j l i c b h d=Lv (fin cf h (iO a cx mask ⟨c,b⟩ h)) cx cf mask m f g a k j l i c b h d:=id rfl
@[simp] theorem Xg (j:af Oper) (b:List (Nat×Nat)) (c:aa Tmp) (m:Op) (g:List Oper) (f:Nat) (i:List (Nat×Nat)) (d:List (Nat×H×H)) (l k:eZ) (h:H) (a:gU):DGK (some false) cx cf mask j b c m g f i d l k h a=OY .undef cx cf mask j b c g (f+1) i d l k h a:=id rfl
def DEK(q:Bool)(p:T)(d:H)(cx:Ctx)(cf:ir)(mask:Nat)(o:af Oper)(b:List (Nat×Nat))(k:aa Tmp)(m:Op)(l:List Oper)(a:Nat)(i:List (Nat×Nat))(c:List (Nat×H×H))(g f:eZ)(h:H)(j:gU):Prop:=match q with
 |true=>(uK b a h d i/\Ki cx mask b a c m ⟨g,f⟩)/\OY p cx cf mask o b k l (a+1) i (if kM b a=true then(a,h,d)::c else c) g f d j
 |false=>DLK (fk cx mask ⟨g,f⟩ h m) p cx cf mask o b k l a i c g f d j
@[simp] theorem O0 (p:T) (d:H) (o:af Oper) (b:List (Nat×Nat)) (k:aa Tmp) (m:Op) (l:List Oper) (a:Nat) (f:List (Nat×Nat)) (c:List (Nat×H×H)) (i g:eZ) (h:H) (j:gU):DEK true p d cx cf mask o b k m l a f c i g h j=((uK b a h d f/\Ki cx mask b a c m ⟨i,g⟩)/\OY p cx cf mask o b k l (a+1) f (if kM b a=true then(a,h,d)::c else c) i g d j):=id rfl
@[simp] theorem Lw (p:T) (i:H) (o:af Oper) (d:List (Nat×Nat)) (f:aa Tmp) (m:Op) (k:List Oper) (j:Nat) (l:List (Nat×Nat)) (g:List (Nat×H×H)) (b a:eZ) (h:H) (c:gU):DEK false p i cx cf mask o d f m k j l g b a h c=DLK (fk cx mask ⟨b,a⟩ h m) p cx cf mask o d f k j l g b a i c:=id rfl
@[simp] theorem aaB (b:T) (r:H) (u:af Oper) (i:List (Nat×Nat)) (q:aa Tmp) (a:Op) (s:List Oper) (l:Nat) (t:List (Nat×Nat)) (j:List (Nat×H×H)) (d c:eZ) (h:H) (p:gU):
 Lv (some (b,r)) cx cf mask u i q a s l t j d c h p=DEK (fZ a) b r cx cf mask u i q a s l t j d c h p:=by
 unfold Lv
 rw[xU]
 unfold DK
 cases hE:fZ a with
 |true=>
  rw[aq rfl,O0]
  have:(∀m f b g,a= .store m f b->dB (eJ cx mask ⟨d,c⟩ f) dE=some g->lM i l g j)↔Ki cx mask i l j a ⟨d,c⟩:=by
   constructor
   ·intro k
    cases a<;>first|exact trivial|skip
    rename_i m f b
    rw[AA]
    cases o:dB (eJ cx mask ⟨d,c⟩ f) dE with
    |none=>exact trivial
    |some g=>exact k m f b g rfl o
   ·intro k m f b g v o
    subst v
    rw[AA,o]at k
    exact k
  rw[this];rfl
 |false=>
  rw[ao (by simp),Lw]
  cases fk cx mask ⟨d,c⟩ h a<;>rfl
section
variable (e:Env)(h:H)
@[simp] theorem SO (a:ab) (c b:ah):fZ (.store a c b)=true:=id rfl
@[simp] theorem SP (b:ah) (a:af ah) (c:af ab):fZ (.call ⟨.value b,a,c⟩)=true:=id rfl
@[simp] theorem SQ (a:Builtin) (b:af ah) (c:af ab):fZ (.call ⟨.builtin a,b,c⟩)=(match a with| .len| .min| .max=>false|_=>true):=id rfl
@[simp] theorem Uz (a:ah):fZ (.move a)=false:=id rfl
@[simp] theorem P6 (a:ah):fZ (.assign a)=false:=id rfl
@[simp] theorem Uy (a b c:ah):fZ (.pick a b c)=false:=id rfl
@[simp] theorem UA (a:ab) (b:ah):fZ (.load a b)=false:=id rfl
@[simp] theorem Ze (a:ah):fZ (.nilCheck a)=false:=id rfl
@[simp] theorem Zk (b:ab) (c:ah) (a:Nat):fZ (.fieldAddr b c a)=false:=id rfl
@[simp] theorem Zj (b:ab) (c:ah) (a:Nat):fZ (.field b c a)=false:=id rfl
@[simp] theorem Zi (a:ab) (b c:ah):fZ (.indexAddr a b c)=false:=id rfl
@[simp] theorem Zh (a:ab) (b c:ah):fZ (.index a b c)=false:=id rfl
@[simp] theorem Wx (a:BinOp) (b c:ab) (d f:ah):fZ (.binOp a b d f c)=false:=id rfl
@[simp] theorem Zc (a:UnOp) (b:ab) (c:ah):fZ (.unOp a b c)=false:=id rfl
@[simp] theorem SS (a:ab):fZ (.alloc a)=false:=id rfl
@[simp] theorem Ww (a:ab) (b:ah):fZ (.box a b)=false:=id rfl
@[simp] theorem SR (b:ab) (a:af (Nat×ah)):fZ (.build b a)=false:=id rfl
@[simp] theorem Zn (b:ab) (n:Nat) (a:af (Nat×ah)):fZ (.buildSlice b n a)=false:=id rfl
@[simp] theorem Zf (a:ab) (b c:ah):fZ (.makeSlice a b c)=false:=id rfl
@[simp] theorem Zd (d:ab) (f:ah) (a b c:aa ah):fZ (.slice d f a b c)=false:=id rfl
@[simp] theorem Zl (b:ah) (a:Nat):fZ (.extract b a)=false:=id rfl
@[simp] theorem Zm (a b:ab) (c:ah):fZ (.convert a b c)=false:=id rfl
@[simp] theorem Zg (c:Fn) (a b:af ah):fZ (.makeFunc c a b)=false:=id rfl
@[simp] theorem aa6 (b:ab) (a:ah):fk cx mask e h (.load b a)=dB (eJ cx mask e a) dE:=id rfl
@[simp] theorem aeW (b:ab) (a c:ah):fk cx mask e h (.indexAddr b a c)=dB (eJ cx mask e a) dE:=id rfl
@[simp] theorem aeR (f:ab) (a:ah) (b c d:aa ah):fk cx mask e h (.slice f a b c d)=dB (eJ cx mask e a) dE:=id rfl
@[simp] theorem ae0 (b c:ab) (a:ah):fk cx mask e h (.convert b c a)=dB (eJ cx mask e a) dE:=id rfl
@[simp] theorem Y9 (a:ab):fk cx mask e h (.alloc a)=some h.size:=id rfl
@[simp] theorem adG (a:ab) (b:ah):fk cx mask e h (.box a b)=some h.size:=id rfl
@[simp] theorem ae1 (b:ab) (n:Nat) (a:af (Nat×ah)):fk cx mask e h (.buildSlice b n a)=some h.size:=id rfl
@[simp] theorem aeT (a:ab) (b c:ah):fk cx mask e h (.makeSlice a b c)=some h.size:=id rfl
@[simp] theorem aa5 (a:ah):fk cx mask e h (.move a)=none:=id rfl
@[simp] theorem Wv (a:ah):fk cx mask e h (.assign a)=none:=id rfl
@[simp] theorem aa4 (a b c:ah):fk cx mask e h (.pick a b c)=none:=id rfl
@[simp] theorem aeS (a:ah):fk cx mask e h (.nilCheck a)=none:=id rfl
@[simp] theorem aeY (b:ab) (c:ah) (a:Nat):fk cx mask e h (.fieldAddr b c a)=none:=id rfl
@[simp] theorem aeX (b:ab) (c:ah) (a:Nat):fk cx mask e h (.field b c a)=none:=id rfl
@[simp] theorem aeV (a:ab) (b c:ah):fk cx mask e h (.index a b c)=none:=id rfl
@[simp] theorem adH (a:BinOp) (b c:ab) (d f:ah):fk cx mask e h (.binOp a b d f c)=none:=id rfl
@[simp] theorem aeQ (a:UnOp) (b:ab) (c:ah):fk cx mask e h (.unOp a b c)=none:=id rfl
@[simp] theorem Y8 (b:ab) (a:af (Nat×ah)):fk cx mask e h (.build b a)=none:=id rfl
@[simp] theorem aeZ (b:ah) (a:Nat):fk cx mask e h (.extract b a)=none:=id rfl
@[simp] theorem aa7 (a:Call):fk cx mask e h (.call a)=none:=id rfl
@[simp] theorem aeU (c:Fn) (a b:af ah):fk cx mask e h (.makeFunc c a b)=none:=id rfl
@[simp] theorem W3 (a b c d:Nat):dE (.ptr a b c d)=some a:=id rfl
@[simp] theorem yO (a b f d:Nat) (c:Bool):dE (.arr a b f d c)=some a:=id rfl
@[simp] theorem Vr (a:List T) (b:Bool):dE (.dq a b)=none:=id rfl
@[simp] theorem Vq:dE .fg=none:=id rfl
@[simp] theorem Vs (a:List T):dE (.iT a)=none:=id rfl
@[simp] theorem W4 (a:ak) (n:Int):dE (.int a n)=none:=id rfl
@[simp] theorem W2 (a:List Nat):dE (.str a)=none:=id rfl
end
variable {dl:DL}
def QK(cx:Ctx)(cf:ir)(mask:Nat)(a:List Oper)(f:aa (List (Nat×Nat)))(c:eZ)(h:H)(b:gU):Prop:=match f with
 |none=>RK cx cf mask a.toArray a c .nil h b
 |some d=>Pe cx cf mask a.toArray d a 0 [] [] c .nil h b
@[simp] theorem acF (a:List Oper) (c:eZ) (h:H) (b:gU):QK cx cf mask a none c h b=RK cx cf mask a.toArray a c .nil h b:=id rfl
@[simp] theorem acz (a:List Oper) (c:List (Nat×Nat)) (d:eZ) (h:H) (b:gU):QK cx cf mask a (some c) d h b=Pe cx cf mask a.toArray c a 0 [] [] d .nil h b:=id rfl
theorem S7(f:aa (Env×H))(g:gU):W (dB f λj=>two j λb a=>some (.normal,(⟨b.vars,.nil⟩:Env),a)) g=∃b a,f=some (b,a)/\g.n ⟨b.vars,.nil⟩ a:=by
 cases f with
 |none=>apply propext;constructor<;>(first|(rintro⟨k,a,l,c,_⟩;simp[dB]at c)|(rintro⟨k,a,c,_⟩;simp at c))
 |some i=>
  obtain⟨b,a⟩:=i
  simp only[dD,jX,BY,ar,ax]
  apply propext;constructor
  ·exact λd=>⟨b,a,⟨rfl,rfl⟩,d⟩
  ·rintro⟨_,_,⟨rfl,rfl⟩,d⟩;exact d
@[simp] theorem aeo (id:Nat) (b:List Oper) (f:Bool) (c d:eZ) (h:H) (a:gU):W (iZ cx cf n mask dl (.region id b.toArray f) ⟨c,d⟩ h) a=QK cx cf mask b (dl.lookup id) c h a:=by
 show W (L3 cx cf mask dl id b.toArray ⟨c,d⟩ h) a=_
 unfold L3
 cases dl.lookup id with
 |none=>exact S7 _ a
 |some g=>exact S7 _ a
@[simp] theorem aem (b c:Code) (e:Env) (h:H) (a:gU):W (iZ cx cf n mask dl (.seq b c) e h) a=W (iZ cx cf n mask dl b e h) (DJ (iZ cx cf n mask dl c) a):=aam _ _ e h a
@[simp] theorem aao (id:Nat) (b:Code) (e:Env) (h:H) (a:gU):W (iZ cx cf n mask dl (.block id b) e h) a=W (iZ cx cf n mask dl b e h) (qI id a):=QV id _ e h a
def CK(d:aa T)(cx:Ctx)(cf:ir)(n mask:Nat)(dl:DL)(b c:Code)(e:Env)(h:H)(a:gU):Prop:=JI d (W (iZ cx cf n mask dl b e h) a) (W (iZ cx cf n mask dl c e h) a)
@[simp] theorem fi (d:Bool) (b c:Code) (e:Env) (h:H) (a:gU):CK (some (.bool d)) cx cf n mask dl b c e h a=if d=true then W (iZ cx cf n mask dl b e h) a else W (iZ cx cf n mask dl c e h) a:=id rfl
@[simp] theorem acv (a:Nat) (f g:Code) (c b:eZ) (h:H) (d:gU):W (iZ cx cf n mask dl (.cond (.tmp a) f g) ⟨c,b⟩ h) d=CK (if(mask>>>a)&&&1=1 then dt c a else dt b a) cx cf n mask dl f g ⟨c,b⟩ h d:=by
 rw[<-Af]
 apply propext
 unfold CK
 show W (dB (Env.get mask ⟨c,b⟩ a) λi=>_) d↔_
 cases Env.get mask ⟨c,b⟩ a with
 |none=>simp[dB,JI,OK]
 |some i=>
  simp only[dD]
  cases i<;>simp only[JI,OK]
  rename_i j
  cases j<;>simp
@[simp] theorem act (b:Code) (e:Env) (h:H) (a:gU):W (iZ cx cf n mask dl (.loop b) e h) a=W (ni (iZ cx cf n mask dl b) n e h) a:=rfl
@[simp] theorem acs (e:Env) (h:H) (a:gU):W (iZ cx cf n mask dl .skip e h) a=a.n e h:=BY e h a
@[simp] theorem acu (id:Nat) (e:Env) (h:H) (a:gU):W (iZ cx cf n mask dl (.exit id) e h) a=a.x id e h:=BZ id e h a
@[simp] theorem aen (e:Env) (h:H) (a:gU):W (iZ cx cf n mask dl .ret e h) a=a.r e h:=S5 e h a
end
end
end Go.TI
