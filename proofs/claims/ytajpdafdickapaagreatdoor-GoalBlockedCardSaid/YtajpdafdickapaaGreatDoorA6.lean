/- TiQuick -/
import Derived.Test.YtajpdafdickapaaGreatDoorA5
import Derived.KernelRfl
set_option linter.all false
namespace Go.TI
noncomputable section
section
def Yh(a:Fun):Code:=Option.casesOn a.fn.body .skip λb=>b
section
variable {mask nt:Nat}{K:List Nat}{pre:List T}
end
section
variable {P:List T->Prop}
end
end
mutual
def yz:T->T->Bool
 | .undef,a=>(match a with| .undef=>true|_=>false)
 | .bool y,a=>(match a with| .bool n=>Bool.casesOn y (!n) n|_=>false)
 | .int o q,a=>(match a with| .int p r=>decide (o=p)&&decide (q=r)|_=>false)
 | .str s,a=>(match a with| .str t=>decide (s=t)|_=>false)
 | .kH,a=>(match a with| .kH=>true|_=>false)
 | .kS,a=>(match a with| .kS=>true|_=>false)
 | .kR,a=>(match a with| .kR=>true|_=>false)
 | .nZ,a=>(match a with| .nZ=>true|_=>false)
 | .gX,a=>(match a with| .gX=>true|_=>false)
 | .ptr a h j l,b=>(match b with| .ptr d i k m=>Nat.beq a d&&Nat.beq h i&&Nat.beq j k&&Nat.beq l m|_=>false)
 | .arr a h j l g,b=>(match b with| .arr d i k m c=>Nat.beq a d&&Nat.beq h i&&Nat.beq j k&&Nat.beq l m&&Bool.casesOn g (!c) c|_=>false)
 | .map a,b=>(match b with| .map d=>Nat.beq a d|_=>false)
 | .dK e g,b=>(match b with| .dK f c=>B7 e f&&Bool.casesOn g (!c) c|_=>false)
 | .agg e,b=>(match b with| .agg f=>B7 e f|_=>false)
 | .func g e,b=>(match b with| .func c f=>Nat.beq g c&&B7 e f|_=>false)
 | .iface u w,b=>(match b with| .iface v x=>Nat.beq u v&&yz w x|_=>false)
 |_,_=>false
def B7:List T->List T->Bool
 | [],a=>(match a with| []=>true|_=>false)
 |x::b,a=>(match a with|y::c=>yz x y&&B7 b c|_=>false)
end
def K0{b a:Bool}(c:(@Bool.rec (λ_=>Bool) (!a) a b)=true):b=a:=by cases b<;>cases a<;>simp_all
mutual
def KK:(h b:T)->yz h b=true->h=b
 | .undef,b,a=>by cases b<;>first|rfl|simp[yz]at a
 | .bool z,b,a=>by
  cases b<;>first|(simp[yz]at a;done)|skip
  rename_i n;have a:(@Bool.rec (λ_=>Bool) (!n) n z)=true:=by grind [yz]
  rw[K0 a]
 | .int A B,b,a=>by cases b<;>simp[yz]at a;grind
 | .str C,b,a=>by cases b<;>simp[yz]at a;grind
 | .kH,b,a=>by cases b<;>first|rfl|simp[yz]at a
 | .kS,b,a=>by cases b<;>first|rfl|simp[yz]at a
 | .kR,b,a=>by cases b<;>first|rfl|simp[yz]at a
 | .nZ,b,a=>by cases b<;>first|rfl|simp[yz]at a
 | .gX,b,a=>by cases b<;>first|rfl|simp[yz]at a
 | .ptr b i j k,c,a=>by cases c<;>simp[yz]at a;grind
 | .arr b i j k g,c,a=>by
  cases c<;>first|(simp[yz]at a;done)|skip
  rename_i o p v w f;have a:(Nat.beq b o&&Nat.beq i p&&Nat.beq j v&&Nat.beq k w&& @Bool.rec (λ_=>Bool) (!f) f g)=true:=by grind [yz]
  simp only[aB]at a;obtain⟨⟨⟨⟨q,r⟩,s⟩,t⟩,u⟩:=a;rw[aG q,aG r,aG s,aG t,K0 u]
 | .map b,c,a=>by cases c<;>simp[yz]at a;grind
 | .dK d g,c,a=>by
  cases c<;>first|(simp[yz]at a;done)|skip
  rename_i e f;have a:(B7 d e&& @Bool.rec (λ_=>Bool) (!f) f g)=true:=by grind [yz]
  simp only[aB]at a;rw[Cv d e a.1,K0 a.2]
 | .agg d,c,a=>by
  cases c<;>first|(simp[yz]at a;done)|skip
  rename_i e;have a:B7 d e=true:=by grind [yz]
  rw[Cv d e a]
 | .func g d,c,a=>by
  cases c<;>first|(simp[yz]at a;done)|skip
  rename_i f e;have a:(Nat.beq g f&&B7 d e)=true:=by grind [yz]
  simp only[aB]at a;rw[aG a.1,Cv d e a.2]
 | .iface x l,c,a=>by
  cases c<;>first|(simp[yz]at a;done)|skip
  rename_i y m;have a:(Nat.beq x y&&yz l m)=true:=by grind [yz]
  simp only[aB]at a;rw[aG a.1,KK l m a.2]
 | .jD _,b,a=>by grind [yz]
 | .iter _,b,a=>by grind [yz]
 | .tuple _,b,a=>by grind [yz]
def Cv:(c a:List T)->B7 c a=true->c=a
 | [],a,b=>by cases a<;>first|rfl|grind [B7]
 |x::d,a,b=>by
  cases a<;>first|(simp[B7]at b;done)|skip
  rename_i e f;have b:(yz x e&&B7 d f)=true:=by grind [B7]
  simp only[aB]at b;rw[KK x e b.1,Cv d f b.2]
end
structure Ent where
 f:Nat
 args:List T
 h:H
 r:T
 h':H
def p8(d:ai)(cx:Ctx)(a:Ent):Prop:=
 ∀e b c (g:af ao),St cx e b.heap c a.h->gU b.heap c a.args g.toList->Aj d (rh cx e b c a.h a.r a.h') ((callFunc a.f g).run d b)
mutual
def ni:T->Bool
 | .undef| .bool _| .int _ _| .str _| .kH| .gX| .kS| .kR| .nZ=>true
 | .dK a _=>mp a
 | .agg a=>mp a
 | .tuple a=>mp a
 | .jD a=>mp a
 | .func _ a=>mp a
 | .iface _ b=>ni b
 |_=>false
def mp:List T->Bool
 | []=>true
 |x::a=>ni x&&mp a
end
mutual
def DD:(c:T)->ni c=true->pZ 0 c
 | .undef,_=> .undef
 | .bool _,_=> .bool _
 | .int _ _,_=> .int _ _
 | .str _,_=> .str _
 | .kH,_=> .kH
 | .gX,_=> .gX
 | .kS,_=> .kS
 | .kR,_=> .kR
 | .nZ,_=> .nZ
 | .dK a h,b=> .dK _ _ λc f=>by
  have⟨d,e,g⟩:=List.mem_flatMap.1 f;exact(ls a (by grind [ni]) d e).cells c g
 | .agg a,b=> .agg _ (ls a (by grind [ni]))
 | .tuple a,b=> .tuple _ (ls a (by grind [ni]))
 | .jD a,b=> .jD _ (ls a (by grind [ni]))
 | .func _ a,b=> .func _ _ (ls a (by grind [ni]))
 | .iface _ c,b=> .iface _ _ (DD c (by grind [ni]))
 | .ptr _ _ _ _,b=>by grind [ni]
 | .arr _ _ _ _ _,b=>by grind [ni]
 | .iter _,b=>by grind [ni]
 | .map _,b=>by grind [ni]
def ls:(d:List T)->mp d=true->∀c∈d,pZ 0 c
 | [],_=>λc b=>by grind
 |x::g,a=>λc b=>by
  unfold mp at a;rw[aB]at a;have e:=DD x a.1;rcases List.mem_cons.1 b with f|b
  ·rw[f];exact e
  ·exact ls g a.2 c b
end
def fI.move{y:af Obj}{z A:Mu}{b:T}{l:ao}(a:fI y z b l)(x:∀n,nN A n->nN z n)(hl:pZ 0 b):fI y A b l:=by
 induction a with
 |undef=>exact .undef
 |bool h=>exact .bool h
 |int c K=>exact .int c K
 |str L a=>exact .str L a
 |kH=>exact .kH
 |ptr h D n Q o g s G P=>cases hl with|ptr _ _ _ _ a=>omega
 |jD r p off arr k fz u t f j hr e=>
  cases hl with|jD _ a=>exact .jD r p off arr k fz (λc=>u (x _ c)) t f j λc b d=>e c b d (a b (ay d))
 |nV m g=>exact .nV m g
 |dK C E m p off q M arr k fz u t w H I f j hr e=>
  cases hl with|dK _ _ a=>exact .dK C E m p off q M arr k fz (λc=>u (x _ c)) t w H I f j λc b d=>e c b d (a b (ay d))
 |gX g q=>exact .gX g q
 |arr h D S R m o g O s G w v=>cases hl with|arr _ _ _ _ _ a=>omega
 |func F B i f hr e=>cases hl with|func _ _ a=>exact .func F B i f λc b d=>e c b d (a b (ay d))
 |kS=>exact .kS
 |kR=>exact .kR
 |iface k b l a e=>cases hl with|iface _ _ a=>exact .iface k b l (e a)
 |iter h o g s v=>cases hl with|iter _ a=>omega
 |map h o n s v=>cases hl with|map _ a=>omega
 |nZ=>exact .nZ
 |agg r i f j hr e=>cases hl with|agg _ a=>exact .agg r i f j λc b d=>e c b d (a b (ay d))
 |tuple N i f hr e=>cases hl with|tuple _ a=>exact .tuple N i f λc b d=>e c b d (a b (ay d))
def lh(d:ai)(cx:Ctx)(h:Nat)(g:List T)(i:T):Prop:=
 ∀e a c (f:af ao) (b:H),St cx e a.heap c b->gU a.heap c g f.toList->Aj d (rh cx e a c b i b) ((callFunc h f).run d a)
def H5{s:ai}{cx:Ctx}{u:Nat}{k:List T}{z:T}{v:H}(hl:∀i∈k,pZ 0 i)(L:v.size=0)(D:p8 s cx ⟨u,k,⟨0,0,[]⟩,z,v⟩):lh s cx u k z:=by
 intro S h f t U e w;have q:∀a,nN ⟨λ_=>none,nN f⟩ a->nN f a:=by
  rintro a (⟨d,b,c,_⟩|hr)
  ·grind
  omega
 have E:∀a,nN f a->a<h.heap.size:=by
  rintro a (⟨d,b,c,rfl⟩|hr)
  ·exact e.lt c
  ·exact e.rm a hr
 have N:St cx h.heap.size h.heap ⟨λ_=>none,nN f⟩ ⟨0,0,[]⟩:=by
  refine⟨rfl,aw _,λd b c=>by grind,λd R b Q c=>by simp,λd b c=>by grind,λd b c=>by grind,λa hr=>E a hr,λn m p=>?_⟩;have:=e.zI n m p;refine this.move q ?_;have⟨_,_,_,_,_,_,_,_,_,I,_⟩:=this.mf;exact .jD _ λi l=>(I i l).2.low 0
 have B:gU h.heap ⟨λ_=>none,nN f⟩ k t.toList:=⟨w.1,λr i l=>(w.2 r i l).move q (hl i (ay l))⟩;refine(D h.heap.size h ⟨λ_=>none,nN f⟩ t N B).mono λi A ⟨⟨P,y,M,g,V⟩,W⟩=>?_;have G:∀a,nN f a->nN P a:=λa j=> .inr (by rw[g.ext.py];exact j);have o:Ext h.heap f A.heap f:=by
  refine⟨g.ext.size,λa j x=>⟨(g.ext.nU a j (λr=>x (q a r))).1,x⟩,λd b c=>⟨b,c,.inl rfl⟩,rfl,λa j hr=>?_⟩;exact g.ext.kept a j (.inr hr)
 have C:∀d b,f d=some b->A.heap[b.jc]? =h.heap[b.jc]? :=λd b c=>g.ext.kept b.jc (e.lt c) (.inl ⟨d,b,c,rfl⟩);refine⟨⟨f,y.move G (y.low λd b c=>L▸M.fh c),⟨e.wf,aT e.fit g.ext.size,λd b c=>?_,e.inj,e.low,e.apart,λa hr=>bD (e.rm a hr) g.ext.size,λn m p=>(e.zI n m p).ext o⟩,⟨o,g.os,g.tape,g.output⟩,yJ.refl _ _⟩,lr.refl e.wf⟩;have⟨O,K,F⟩:=e.box d b c;exact⟨O,K,F.ext o (C d b c)⟩
def Bv:List T->List T->Bool
 | [],a=>(match a with| []=>true|_=>false)
 |x::b,a=>(match a with|y::c=>Bv b c&&yz x y|_=>false)
def zf{b:ai}{cx:Ctx}{c:Nat}{a:List T}{d:T}(hl:∀f∈a,pZ 0 f)(e:p8 b cx ⟨c,a,⟨0,0,[]⟩,d,⟨0,0,[]⟩⟩):lh b cx c a d:=H5 hl rfl e
def Q4:∀(b a:List T),Bv b a=true->b=a:=by
 intro b;induction b with
 |nil=>intro a c;cases a<;>first|rfl|grind [Bv]
 |cons f g d=>
  intro a c;cases a with
  |nil=>grind [Bv]
  |cons h e=>
   simp only[Bv,aB]at c;rw[KK _ _ c.2,d e c.1]
abbrev vN:=List (Nat×List (List T×T))
def FY(e:List (List T×T))(b:List T):aa T:=
 @List.rec (List T×T) (λ_=>aa T) none (λc _ d=>Prod.casesOn c λa f=> @Bool.rec (λ_=>aa T) d (some f) (Bv b a)) e
def Bu(h:vN)(d:Nat)(b:List T):aa T:=
 @List.rec (Nat×List (List T×T)) (λ_=>aa T) none (λc _ a=>Prod.casesOn c λe f=> @Bool.rec (λ_=>aa T) a (Option.casesOn (FY f b) a λg=>some g) (Nat.beq d e)) h
inductive yI (P:ai) (cx:Ctx):vN->Prop where
 |nil:yI P cx []
 |new {f:Nat} {t:vN}:yI P cx t->yI P cx ((f,[])::t)
 |ent {f:Nat} {a:List T} {r:T} {l:List (List T×T)} {t:vN}:lh P cx f a r->yI P cx ((f,l)::t)->yI P cx ((f,(a,r)::l)::t)
def yI.mem{a:ai}{cx:Ctx}{f:vN}(g:yI a cx f):∀c d,(c,d)∈f->∀b e,(b,e)∈d->lh a cx c b e:=by
 induction g with
 |nil=>simp
 |new _ h=>
  grind
 |ent i _ h=>
  grind
theorem NT{c:List (List T×T)}{b:List T}{d:T}(a:FY c b=some d):(b,d)∈c:=by
 induction c with
 |nil=>grind [FY]
 |cons g c h=>
  obtain⟨f,r1⟩:=g;have a: @Bool.rec (λ_=>aa T) (FY c b) (some r1) (Bv b f)=some d:=a;cases e:Bv b f with
  |false=>rw[e]at a;grind
  |true=>
   rw[e]at a;have a:some r1=some d:=a;simp only[au]at a;subst a;rw[Q4 _ _ e];simp
def NS{e:vN}{c:Nat}{b:List T}{d:T}(a:Bu e c b=some d):∃f,(c,f)∈e/\(b,d)∈f:=by
 induction e with
 |nil=>grind [Bu]
 |cons k e m=>
  obtain⟨g,f⟩:=k;have a: @Bool.rec (λ_=>aa T) (Bu e c b) (@Option.rec T (λ_=>aa T) (Bu e c b) (λd=>some d) (FY f b)) (Nat.beq c g)=some d:=a;have o:Bu e c b=some d->∃j,(c,j)∈(g,f)::e/\(b,d)∈j:=λn=>by
   grind
  cases h:Nat.beq c g with
  |false=>rw[h]at a;grind
  |true=>
   rw[h]at a;cases i:FY f b with
   |none=>rw[i]at a;grind
   |some l=>
    rw[i]at a;have a:some l=some d:=a;simp only[au]at a;subst a;rw[aG h]
    grind [NT,List.mem_cons_self]
def QO(h:vN)(ft:aj->aa qN):aj->aa qN:=λb=>
 Option.casesOn (ft b) none λe=>some λd f a c=>Option.casesOn (Bu h b a) (e d f a c) λg=>some (g,c)
def QN{i:ai}{cx:Ctx}{h:vN}{ft:aj->aa qN}(y:yI i cx h)(z:∀a c,ft a=some c->mE i cx a c):∀a c,QO h ft a=some c->mE i cx a c:=by
 intro a c f;unfold QO at f;cases k:ft a with
 |none=>rw[k]at f;grind
 |some o=>
  rw[k]at f;simp only[au]at f;subst f;intro n v q d e g j b l t u m s p;have b: @Option.rec T (λ_=>aa (T×H)) (o n q d e) (λg=>some (g,e)) (Bu h a d)=some (g,j):=b;cases hE:Bu h a d with
  |none=>rw[hE]at b;exact z a o k n v q d e g j b l t u m s p
  |some r=>
   rw[hE]at b;have b:some (r,e)=some (g,j):=b;simp only[au,aD]at b;obtain⟨rfl,rfl⟩:=b;have⟨A,w,x⟩:=NS hE;exact y.mem a A w d r x l t u m e s p
def xY(b:vN)(ft:aj->aa qN)(a:Nat):jd:=Ja (QO b ft) a
def I9{a:ai}{cx:Ctx}{e:vN}{ft:aj->aa qN}(f:yI a cx e)(g:∀b c,ft b=some c->mE a cx b c)(d:Nat):nR a cx (xY e ft d):=Bw (QN f g) d
def yI.next{c:ai}{cx:Ctx}{f:vN}{ft:aj->aa qN}(n:∀a g,ft a=some g->mE c cx a g){i:Nat}{a:Nat}{d:List (List T×T)}(h:yI c cx ((a,d)::f)){b:List T}{e:T}
 (hl:mp b=true) (m:xY ((a,d)::f) ft i a b ⟨0,0,[]⟩=some (e,⟨0,0,[]⟩)):yI c cx ((a,(b,e)::d)::f):=
 .ent (zf (ls b hl) λj p q k o l=>I9 h n i a b ⟨0,0,[]⟩ e ⟨0,0,[]⟩ m j p q k o l) h
section
def put(a:fW)(b:Nat)(d:T):fW:=(lZ a b d).getD a
def pI(d:fW)(a:Nat)(c:T):lZ d a c=some (put d a c):=by
 have:∃b,lZ d a c=some b:=by
  induction d with
  |nil=>exact⟨_,rfl⟩
  |cons e i b g=>
   obtain⟨h,ht⟩:=g;cases f:Nat.beq e a with
   |true=>exact⟨.cons e c b,by show @Bool.rec (λ_=>aa fW) _ _ (Nat.beq e a)=_;rw[f]⟩
   |false=>simp_all[lZ,dV]
 obtain⟨b,hr⟩:=this;rw[hr];unfold put;rw[hr];rfl
def mz(b:Nat)(d:T)(c:fW)(a:Nat):dM (.cons b d c) a=if b=a then some d else dM c a:=by
 show @Bool.rec (λ_=>aa T) (dM c a) (some d) (Nat.beq b a)=_;cases e:Nat.beq b a with
 |true=>rw[ar (aG e)]
 |false=>rw[aq (cP e)]
def FP(a:Nat):dM .nil a=none:=rfl
def QR(g:fW)(b:Nat)(c:T)(i:Nat):dM (put g b c) i=if b=i then some c else dM g i:=by
 have a:=pI g b c;generalize put g b c=f at a;induction g generalizing f with
 |nil=>
  have a:some (fW.cons b c .nil)=some f:=a;simp only[au]at a;subst a;rw[mz,FP]
 |cons e j d k=>
  have a: @Bool.rec (λ_=>aa fW) (dV (lZ d b c) λd=>some (.cons e j d)) (some (.cons e c d)) (Nat.beq e b)=some f:=a;cases h:Nat.beq e b with
  |true=>
   rw[h]at a;have a:some (fW.cons e c d)=some f:=a;simp only[au]at a;subst a;have:=aG h;subst this;simp only[mz];split<;>rfl
  |false=>
   rw[h]at a;have a:(dV (lZ d b c) λd=>some (fW.cons e j d))=some f:=a;rw[pI]at a;simp only[ed,au]at a;subst a;have:=cP h;rw[mz,mz,k _ (pI _ _ _)]
   grind
structure iS where
 n:Env->H->Prop
 x:Nat->Env->H->Prop
 r:Env->H->Prop
def W(f:Out)(c:iS):Prop:=∃d a b,f=some (d,a,b)/\Ex.casesOn d (c.n a b) (λe=>c.x e a b) (c.r a b)
@[simp]def EE (a:Env) (b:H) (d:iS):W (some (.normal,a,b)) d=d.n a b:=by
 apply propext;constructor
 ·rintro⟨h,f,g,e,c⟩;simp only[au,aD]at e;obtain⟨rfl,rfl,rfl⟩:=e;exact c
 ·exact λc=>⟨_,a,b,rfl,c⟩
@[simp]def Hv (f:Nat) (a:Env) (b:H) (d:iS):W (some (.exit f,a,b)) d=d.x f a b:=by
 apply propext;constructor
 ·rintro⟨i,g,h,e,c⟩;simp only[au,aD]at e;obtain⟨rfl,rfl,rfl⟩:=e;exact c
 ·exact λc=>⟨_,a,b,rfl,c⟩
@[simp]def acC (a:Env) (b:H) (d:iS):W (some (.ret,a,b)) d=d.r a b:=by
 apply propext;constructor
 ·rintro⟨h,f,g,e,c⟩;simp only[au,aD]at e;obtain⟨rfl,rfl,rfl⟩:=e;exact c
 ·exact λc=>⟨_,a,b,rfl,c⟩
def RW(a:iS):¬W none a:=by rintro⟨e,b,c,d,_⟩;grind
def GE(b:Env->H->Out)(a:iS):iS:=⟨λc d=>W (b c d) a,a.x,a.r⟩
def sq(id:Nat)(a:iS):iS:=⟨a.n,λd b c=>if d=id then a.n b c else a.x d b c,a.r⟩
def yr(b:Env->H->Prop)(a:iS):iS:=⟨b,a.x,a.r⟩
@[simp]theorem ae6 (b:Env->H->Out) (a:iS) (c:Env) (d:H):(GE b a).n c d=W (b c d) a:=rfl
@[simp]theorem Xj (e:Env->H->Out) (a:iS) (d:Nat) (b:Env) (c:H):(GE e a).x d b c=a.x d b c:=rfl
@[simp]theorem ae5 (d:Env->H->Out) (a:iS) (b:Env) (c:H):(GE d a).r b c=a.r b c:=rfl
@[simp]theorem abL (id:Nat) (a:iS) (b:Env) (c:H):(sq id a).n b c=a.n b c:=rfl
@[simp]theorem zv (id:Nat) (a:iS) (d:Nat) (b:Env) (c:H):(sq id a).x d b c=if d=id then a.n b c else a.x d b c:=rfl
@[simp]theorem abK (id:Nat) (a:iS) (b:Env) (c:H):(sq id a).r b c=a.r b c:=rfl
@[simp]theorem ae9 (a:Env->H->Prop) (d:iS) (b:Env) (c:H):(yr a d).n b c=a b c:=rfl
@[simp]theorem ae7 (e:Env->H->Prop) (a:iS) (d:Nat) (b:Env) (c:H):(yr e a).x d b c=a.x d b c:=rfl
@[simp]theorem ae8 (d:Env->H->Prop) (a:iS) (b:Env) (c:H):(yr d a).r b c=a.r b c:=rfl
@[simp]def acB (c e:Env->H->Out) (a:Env) (b:H) (d:iS):W (CV c e a b) d=W (c a b) (GE e d):=by
 apply propext;unfold CV;cases k:c a b with
 |none=>constructor<;>(rintro⟨f,a,b,g,_⟩;simp[dV]at g)
 |some h=>
  obtain⟨f,i,j⟩:=h;simp only[ed,lY];cases f<;>simp
@[simp]def Uv (id:Nat) (g:Env->H->Out) (b:Env) (d:H) (a:iS):W (yG id g b d) a=W (g b d) (sq id a):=by
 apply propext;unfold yG;cases l:g b d with
 |none=>constructor<;>(rintro⟨i,b,d,j,_⟩;simp[dV]at j)
 |some k=>
  obtain⟨i,c,e⟩:=k;simp only[ed,lY];cases i with
  |normal=>simp
  |ret=>simp
  |exit f=>
   show W (@Bool.rec (λ_=>Out) (some (.exit f,c,e)) (some (.normal,c,e)) (Nat.beq f id)) a↔_;cases h:Nat.beq f id with
   |true=>
    show W (some (.normal,c,e)) a↔_;rw[EE,Hv,zv,ar (aG h)]
   |false=>
    show W (some (.exit f,c,e)) a↔_;rw[Hv,Hv,zv,aq (cP h)]
def Rf(d:aa T)(a b:Prop):Prop:=match d with
 |some (.bool c)=>if c=true then a else b
 |_=>False
def RY{σ:Type}{g:Env->H->Out}(I:σ->Env->H->Prop)(m:σ->Nat){h:iS}
 (n:∀c a b,I c a b->W (g a b) (yr (λe f=>∃i,m i<m c/\I i e f) h)):
 ∀d c a b,m c<d->I c a b->W (oL g d a b) h:=by
 intro d;induction d with
 |zero=>omega
 |succ d w=>
  intro c a b u l;have⟨j,r,s,o,p⟩:=n c a b l;show W (dV (g a b) λq=>three q λj e f=> @Ex.rec (λ_=>Out) (oL g d e f) (λk=>some (.exit k,e,f)) (some (.ret,e,f)) j) h;rw[o];simp only[ed,lY];cases j with
  |normal=>
   obtain⟨i,v,t⟩:=p
   grind
  |exit k=>simp_all
  |ret=>simp_all
section
variable {P:ai}{cx:Ctx}
end
end
@[simp]theorem adx (c:jd) (d a:H) (b:T):fin c d (some (.val b a))=some (b,a):=rfl
@[simp]theorem acf (b:jd) (d:H) (c:aj) (a:List T):fin b d (some (.call c a))=b c a d:=rfl
@[simp]theorem yM (a:H) (b:T):val a (some b)=some (.val b a):=rfl
@[simp]theorem HF (a:H) (b:T):jI (some (b,a))=some (.val b a):=rfl
def TM(a b:List Nat):VF a b=decide (a=b):=by rw[G6,bm];simp
def TN(a b:Int):Sl a b=decide (a=b):=by rw[yA];rfl
def xr(a b:Int):LM a b=decide (a<b):=yq a b
@[simp]theorem sr (a:ak):EK a a=true:=by cases a<;>rfl
@[simp]theorem XF (d a:ak) (b c:Int):sI (.int d) (.int a b) (.int a c)=some (decide (b=c)):=by
 show gJ (EK a a) (some (Sl b c))=_;rw[sr,TN];rfl
@[simp]def XE (a b:List Nat):sI .str (.str a) (.str b)=some (decide (a=b)):=by
 show some (VF a b)=_;rw[TM]
@[simp]theorem VG (a b:Bool):sI .bool (.bool a) (.bool b)=some (a==b):=by cases a<;>cases b<;>rfl
@[simp]def Zq (a:ak) (b c:Int):binop .lss (.int a b) (.int a c)=some (.bool (decide (b<c))):=by
 show gJ (EK a a) (xL (LM b c))=_;rw[sr,xr,iH,r9]
@[simp]def Zr (a:ak) (b c:Int):binop .leq (.int a b) (.int a c)=some (.bool (decide (b<=c))):=by
 show gJ (EK a a) (xL (!LM c b))=_;rw[sr,xr,iH,r9];congr 2;rw[bm];simp
@[simp]def Zs (a:ak) (b c:Int):binop .gtr (.int a b) (.int a c)=some (.bool (decide (c<b))):=by
 show gJ (EK a a) (xL (LM c b))=_;rw[sr,xr,iH,r9]
@[simp]def Zt (a:ak) (b c:Int):binop .geq (.int a b) (.int a c)=some (.bool (decide (c<=b))):=by
 show gJ (EK a a) (xL (!LM b c))=_;rw[sr,xr,iH,r9];congr 2;rw[bm];simp
def jH{a:Int}(c: -9223372036854775808<=a)(d:a<9223372036854775808):Lf .i64 a=a:=by
 cases a with
 |ofNat b=>
  show @Bool.rec (λ_=>Int) _ _ (Nat.ble b 9223372036854775807)=_;rw[bR (by grind)]
 |negSucc b=>
  show @Bool.rec (λ_=>Int) _ _ (Nat.ble b 9223372036854775807)=_;rw[bR J]
def HX{a:Int}(b: -9223372036854775808<=a)(c:a<9223372036854775808):qr .i64 a=some (.int .i64 a):=by
 unfold qr;rw[jH b c,oY]
theorem iL{a b:Int}(c: -9223372036854775808<=a+b)(d:a+b<9223372036854775808):binop .add (.int .i64 a) (.int .i64 b)=some (.int .i64 (a+b)):=HX c d
def kU{a b:Int}(c: -9223372036854775808<=a-b)(d:a-b<9223372036854775808):binop .sub (.int .i64 a) (.int .i64 b)=some (.int .i64 (a-b)):=HX c d
def K2{a b:Nat}(c:a<b)(d:b<9223372036854775808):binop .add (.int .i64 (a:Int)) (.int .i64 1)=some (.int .i64 ((a+1:Nat):Int)):=by
 rw[iL J J];rfl
@[simp]theorem ZF (a:Bool):unop .not (.bool a)=some (.bool !a):=by cases a<;>rfl
def QS{b:Type}(a:List b):kY a=a.length:=jW a
@[simp]theorem Y3 (b:H) (a:List T) (c:Bool):ae3 b (.dK a c)=some (.val (.int .i64 (a.length:Nat)) b):=by
 show val b (dV (ir (kY a)) λd=>some (.int .i64 (.ofNat d)))=_;rw[QS,iO];rfl
@[simp]def Zi (a:List Nat):(T.str a).cells=[.str a]:=id rfl
@[simp]def Zk (a:ak) (b:Int):(T.int a b).cells=[.int a b]:=id rfl
@[simp]def XZ (a:Bool):(T.bool a).cells=[.bool a]:=id rfl
@[simp]def Zm (a:List T):(T.agg a).cells=a:=id rfl
@[simp]def CE (a b:Nat):Nat.beq a b=decide (a=b):=by
 rw[bm];simp
@[simp]def Ul (a b:Nat):Nat.ble a b=decide (a<=b):=by
 rw[bm];simp
@[simp]def Uk (a b:Nat):Nat.blt a b=decide (a<b):=by
 rw[bm,aJ];simp
@[simp]def abZ (a:List Nat):(T.str a).iy=true:=id rfl
@[simp]def ab1 (a:ak) (b:Int):(T.int a b).iy=true:=id rfl
@[simp]def Za (a:Bool):(T.bool a).iy=true:=id rfl
@[simp]def Y9 (a:List T) (b:Bool):(T.dK a b).iy=true:=id rfl
@[simp]def ab3 (a:List T):(T.agg a).iy=true:=id rfl
@[simp]theorem acg (off:Nat) (b:H) (a:List T):faV off b (.jD a)=dV (j4 off a) λc=>some (lP.val (.jD c) b):=rfl
@[simp]theorem Y0 (c:H) (b:Ty) (a:List T):c.load b (.jD a)=kw b a:=rfl
@[simp]theorem adD {b:Type} (a:List b):j4 0 a=some a:=rfl
@[simp]theorem adC {c:Type} (b:Nat) (d:c) (a:List c):j4 (b+1) (d::a)=j4 b a:=rfl
@[simp]theorem ac0 {b:Type} (a:List b):takeN 0 a=some []:=rfl
@[simp]theorem acZ {d:Type} (b:Nat) (c:d) (a:List d):takeN (b+1) (c::a)=dV (takeN b a) λe=>some (c::e):=rfl
@[simp]theorem Zd (a:H) (c:List T) (b:Nat):exV a (.tuple c) b=val a (mI c b):=rfl
end
noncomputable section
open Classical in
@[simp]theorem FO:mp []=true:=by unfold mp;rfl
@[simp]def DC (a:T) (b:List T):mp (a::b)=(ni a&&mp b):=by rw[mp]
@[simp]theorem Iw (a:ak) (b:Int):ni (.int a b)=true:=by unfold ni;rfl
@[simp]theorem YY (a:Bool):ni (.bool a)=true:=by unfold ni;rfl
@[simp]theorem Iv (a:List Nat):ni (.str a)=true:=by unfold ni;rfl
@[simp]theorem YW:ni .gX=true:=by unfold ni;rfl
@[simp]def YX (a:List T) (b:Bool):ni (.dK a b)=mp a:=by rw[ni]
@[simp]def Ix (a:List T):ni (.agg a)=mp a:=by rw[ni]
def NH{d:Type}(c:d->T)(e:∀b,ni (c b)=true):∀a:List d,mp (a.map c)=true:=by
 intro a;induction a with
 |nil=>simp
 |cons b a f=>simp[e b,f]
def SL(b:T)(a:List T):Prop:=(b= .gX/\a=[])\/∃c,b= .dK a c
def sl(a:List T):T:=match a with| []=> .gX|x::b=> .dK (x::b) false
def Uw(a:List T)(b:Bool):SL (.dK a b) a:= .inr ⟨b,rfl⟩
def SL.jw{b:T}{a:List T}(d:SL b a)(c:H):c.jw b=some a:=by
 rcases d with⟨rfl,rfl⟩|⟨e,rfl⟩<;>rfl
theorem SL.cells{a:T}{b:List T}(c:SL a b):a.cells=[a]:=by
 rcases c with⟨rfl,rfl⟩|⟨d,rfl⟩<;>rfl
theorem SL.iy{a:T}{b:List T}(c:SL a b):a.iy=true:=by
 rcases c with⟨rfl,rfl⟩|⟨d,rfl⟩<;>rfl
end
noncomputable section
def Hp(a:H):Prop:=a.fH.length=a.size
def UD{a:H}(c:Hp a)(b:iY):Hp (a.cons b):=by grind [Hp,H.cons]
@[simp]theorem size_cons (a:H) (b:iY):(a.cons b).size=a.size+1:=rfl
def dZ(a:H)(b:Nat)(c:iY):H:=(a.put b c).getD a
def HZ{b:H}(i:Hp b){a:Nat}(h:a<b.size)(e:iY):b.put a e=some (dZ b a e):=by
 have:∃d,b.put a e=some d:=by
  obtain⟨c,f,j⟩:=b;unfold Hp at i;simp only at i h;show∃d,(gJ (Nat.blt a c) (dV (kO j (Nat.sub (Nat.sub c 1) a) e) λg=> @Bool.rec (λ_=>aa H) (some ⟨c,f,g⟩) (some ⟨c,a,g⟩) (Nat.blt a f)))=some d;rw[show Nat.blt a c=true by rw[aJ];exact h,iH,kQ,ar (by grind),ed];cases Nat.blt a f<;>exact⟨_,rfl⟩
 obtain⟨d,k⟩:=this;unfold dZ;rw[k];rfl
def JV{b:H}(m:Hp b){a:Nat}(h:a<b.size)(c:iY):Hp (dZ b a c)/\(dZ b a c).size=b.size/\∀f,(dZ b a c).get f=if f=a then some c else b.get f:=by
 have e:=HZ m h c;generalize dZ b a c=g at*
 obtain⟨d,j,k⟩:=b;unfold Hp at*
 simp only at m h;have e:(gJ (Nat.blt a d) (dV (kO k (Nat.sub (Nat.sub d 1) a) c) λl=> @Bool.rec (λ_=>aa H) (some ⟨d,j,l⟩) (some ⟨d,a,l⟩) (Nat.blt a j)))=some g:=e;rw[show Nat.blt a d=true by rw[aJ];exact h,iH,kQ,ar (by grind),ed]at e;have o:g.size=d/\g.fH=k.set (d-1-a) c:=by
  cases hl:Nat.blt a j<;>rw[hl]at e<;>simp only[au]at e<;>subst e<;>exact⟨rfl,rfl⟩
 obtain⟨i,n⟩:=o;refine⟨by rw[i,n];grind,i,λf=>?_⟩;rw[H.get_eq,H.get_eq,i,n]
 grind
def get_put{b:H}(f:Hp b){c:Nat}(e:c<b.size)(d:iY)(a:Nat):(dZ b c d).get a=if a=c then some d else b.get a:=(JV f e d).2.2 a
@[simp]theorem adz (off:Nat) (c:H) (a b d e:Nat):faV off c (.ptr a b d e)=some (.val (.ptr a b d (e+off)) c):=by
 show(dV (ir (Nat.add e off)) λf=>some (lP.val (.ptr a b d f) c))=_;rw[iO];rfl
@[simp]theorem QJ (a:H) (b:Nat->T) (c:iY):jI (a.new b c)=some (.val (b a.size) (a.cons c)):=by rw[H.ly];rfl
theorem Ku{a:H}(b:Hp a)(f c:T):uy 0 0 f c a=some (c,⟨0,0,[]⟩):=by
 obtain⟨d,e,g⟩:=a;unfold Hp at b;simp only at b;unfold uy;simp only;rw[show Nat.sub d 0=d from rfl,mh,ar J,ed,show Nat.ble 0 e=true by simp]
 grind
def IB{a:H}(e:Hp a){b c:T}(d:jn a 0 b=some c):DF false 0 0 b a=some (c,⟨0,0,[]⟩):=by
 show @Option.rec T (λ_=>aa (T×H)) (nJ 0 b a) (λc=>uy 0 0 b c a) (jn a 0 b)=_;rw[d]
 grind [Ku]
inductive UE:T->Prop where
 |bool (b:Bool):UE (.bool b)
 |int (k:ak) (n:Int):UE (.int k n)
 |str (s:List Nat):UE (.str s)
 |dK (es:List T) (f:Bool):UE (.dK es f)
 |gX:UE .gX
theorem UE.freeze{a:T}(d:UE a)(c:H)(e b:Nat):freeze c e (b+1) a=some a:=by cases d<;>rfl
def tu{c:T->aa T}{a:List T}(d:∀b∈a,c b=some b):fQ c a=some a:=by
 induction a with
 |nil=>rfl
 |cons b h e=>
  rw[jK,d b dy,e λf g=>d f (by grind)];rfl
def acR(b:T):Prop:=UE b\/∃a,b= .agg a/\∀c∈a,UE c
theorem acR.freeze{e:T}(d:acR e)(b:H)(c a:Nat):freeze b c (a+2) e=some e:=by
 rcases d with d|⟨f,rfl,g⟩
 ·exact d.freeze b c (a+1)
 ·show(dV (fQ (Go.TI.freeze b c (a+1)) f) λi=>some (T.agg i))=_;rw[tu λj h=>(g j h).freeze b c a];rfl
section
def AK(b:List (Nat×Nat))(c d:Nat):Bool:=b.any λa=>a.1==c&&a.2==d
def lL(a:List (Nat×Nat))(b:Nat):Bool:=a.any λc=>c.1==b
def FX{a:List (Nat×Nat)}{b c:Nat}(h:AK a b c=true):lL a b=true:=by
 unfold AK at h;unfold lL;rw[List.any_eq_true]at h|-
 grind
def T3(g:List (Nat×Nat))(c:af Oper):Bool:=
 let f:=K3 c.toList []
 let d:=c.toList.zipIdx
 d.all λa=>d.all λb=> !Nat.blt b.2 a.2|| !((tv b.1.op&&iF a.1.op)||(iF b.1.op&&(tv a.1.op||iF a.1.op)))||(f.getD a.2 0).testBit b.2||AK g b.2 a.2
def En{j:List (Nat×Nat)}{g:af Oper}(k:T3 j g=true){b c:Nat}{f d:Oper}(p:g[b]? =some f)(q:g[c]? =some d)(s:b<c)
 (r:(tv f.op=true/\iF d.op=true)\/(iF f.op=true/\(tv d.op=true\/iF d.op=true))):jQ g b c=true\/AK j b c=true:=by
 unfold T3 at k;have m:=List.all_eq_true.1 k (d,c) (mem_zipIdx q);have a:=List.all_eq_true.1 m (f,b) (mem_zipIdx p);have o:Nat.blt b c=true:=by rw[aJ];omega
 simp only[o,Bool.not_true,Bool.false_or,bY,cg]at a;rcases a with(a|a)|a
 ·exfalso;rcases r with⟨l,i⟩|⟨l,i|i⟩<;>simp[l,i]at a
 ·exact .inl a
 grind
def mR(c:List (Nat×Nat))(f b:Nat)(d:List (Nat×H×H)):Prop:=∀a∈d,AK c a.1 f=true->fk a.2.1 a.2.2 b=true
def wN(b:List (Nat×Nat))(d:Nat)(h c:H)(f:List (Nat×Nat)):Prop:=∀a∈f,AK b a.1 d=true->fk h c a.2=true
@[simp]def Xe (b:List (Nat×Nat)) (c a:Nat):mR b c a []=True:=by simp[mR]
@[simp]def Vw (b:List (Nat×Nat)) (c a g:Nat) (h f:H) (d:List (Nat×H×H)):mR b c a ((g,h,f)::d)=((AK b g c=true->fk h f a=true)/\mR b c a d):=by simp[mR]
@[simp]def Ze (a:List (Nat×Nat)) (c:Nat) (h b:H):wN a c h b []=True:=by simp[wN]
@[simp]def XH (a:List (Nat×Nat)) (c f d:Nat) (h b:H) (g:List (Nat×Nat)):wN a c h b ((f,d)::g)=((AK a f c=true->fk h b d=true)/\wN a c h b g):=by simp[wN]
open Classical in
def xK(cx:Ctx)(cf:jd)(mask:Nat)(g:af Oper)(b:List (Nat×Nat)):List Oper->Nat->List (Nat×Nat)->List (Nat×H×H)->Env->H->aa (Env×H)
 | [],_,_,_,e,h=>some (e,h)
 |o::k,a,f,c,e,h=>dV (lH cx cf mask g e h o) λm=>two m λj d=>
  dV (kE g mask e o.guard) λr=>
   if r=true then
    if iF o.op=true then
     if wN b a h d f/\(∀p l q i,o.op= .store p l q->dV (fO cx mask e l) dT=some i->mR b a i c)then
      xK cx cf mask g b k (a+1) f (if lL b a=true then(a,h,d)::c else c) j d else none
    else match hU cx mask e h o.op with
     |none=>xK cx cf mask g b k (a+1) f c j d
     |some i=>if mR b a i c then xK cx cf mask g b k (a+1) (if lL b a=true then(a,i)::f else f) c j d else none
   else xK cx cf mask g b k (a+1) f c j d
section
variable {cx:Ctx}{cf:jd}{n mask:Nat}
def HR{o:List (Nat×Nat)}{c:af Oper}(E:T3 o c=true):∀(l:List Oper) (b:Nat) (u:List (Nat×Nat)) (r:List (Nat×H×H)) (g:Seen) (e:Env) (h:H) (q:Env×H),(∀m,l[m]? =c[b+m]?)->
 (∀a∈g.mJ,a.1<b/\(∃d,c[a.1]? =some d/\tv d.op=true)/\(lL o a.1=true->a∈u))->
 (∀a∈g.lf,a.1<b/\(∃d,c[a.1]? =some d/\iF d.op=true)/\(lL o a.1=true->a∈r))->
 xK cx cf mask c o l b u r e h=some q->j7 cx cf mask c l b g e h=some q:=by
 intro l;induction l with
 |nil=>intro b u r g e h q _ _ _ f;exact f
 |cons d l I=>
  intro b u r g e h q hl y x f;have F:c[b]? =some d:=by have:=hl 0;grind
  have G:∀m,l[m]? =c[b+1+m]? :=λm=>by
   have:=hl (m+1);simp only[df]at this;rw[this];grind
  show(dV (lH cx cf mask c e h d) λa=>two a λp i=>
   dV (kE c mask e d.guard) λU=> @Bool.rec (λ_=>aa (Env×H)) (j7 cx cf mask c l (b+1) g p i)
    (@Bool.rec (λ_=>aa (Env×H))
      (@Option.rec Nat (λ_=>aa (Env×H)) (j7 cx cf mask c l (b+1) g p i)
        (λj=>gJ (oF c b j g.lf) (j7 cx cf mask c l (b+1) ⟨(b,j)::g.mJ,g.lf⟩ p i)) (hU cx mask e h d.op))
      (gJ (xV c b h i g.mJ) (gJ (rD cx mask c b e g.lf d.op) (j7 cx cf mask c l (b+1) ⟨g.mJ,(b,h,i)::g.lf⟩ p i))) (iF d.op)) U)=some q
  unfold xK at f;obtain⟨⟨p,i⟩,Q,f⟩:=dI.1 f;simp only[kN]at f;obtain⟨T,R,f⟩:=dI.1 f;rw[Q,ed,kN,R,ed];have P:∀a∈g.mJ,a.1<b+1/\(∃d,c[a.1]? =some d/\tv d.op=true)/\(lL o a.1=true->a∈u):=λa k=>⟨by have:=(y a k).1;omega,(y a k).2⟩;have M:∀a∈g.lf,a.1<b+1/\(∃d,c[a.1]? =some d/\iF d.op=true)/\(lL o a.1=true->a∈r):=λa k=>⟨by have:=(x a k).1;omega,(x a k).2⟩;have lk:∀j,(tv d.op=true\/iF d.op=true)->mR o b j r->oF c b j g.lf=true:=by
   intro j N s;unfold oF;rw[Ag,cD];intro a k;obtain⟨A,⟨S,B,C⟩,D⟩:=x a k;show @Bool.rec (λ_=>Bool) (jQ c a.1 b) true (fk a.2.1 a.2.2 j)=true;rcases En E B F A (.inr ⟨C,N⟩)with z|t
   ·rw[z];cases fk a.2.1 a.2.2 j<;>rfl
   ·rw[s a (D (FX t)) t]
  cases T with
  |false=>grind
  |true=>
   simp only[bA]at f;cases w:iF d.op with
   |true=>
    rw[w]at f;simp only[bA]at f;split at f
    ·rename_i s;have K:xV c b h i g.mJ=true:=by
      unfold xV;rw[Ag,cD];intro a k;obtain⟨A,⟨S,B,C⟩,D⟩:=y a k;show @Bool.rec (λ_=>Bool) (jQ c a.1 b) true (fk h i a.2)=true;rcases En E B F A (.inl ⟨C,w⟩)with z|t
      ·rw[z];cases fk h i a.2<;>rfl
      ·rw[s.1 a (D (FX t)) t]
     have L:rD cx mask c b e g.lf d.op=true:=by
      unfold rD;split
      ·rename_i m V Y X;cases W:dV (fO cx mask e V) dT with
       |none=>rfl
       |some j=>grind
      ·rfl
     simp only[K,L,iH];refine I (b+1) _ _ _ p i q G P (λa k=>?_) f
     grind
    grind
   |false=>
    rw[w]at f;simp only[cr,bw]at f;simp only;cases v:hU cx mask e h d.op with
    |none=>rw[v]at f;grind
    |some j=>
     rw[v]at f;simp only at f;split at f
     ·rename_i s;have O:=Iy v;simp only[lk j (.inl O) s,iH];refine I (b+1) _ _ _ p i q G (λa k=>?_) M f
      grind
     grind
abbrev DL:=List (Nat×List (Nat×Nat))
def OY(cx:Ctx)(cf:jd)(mask:Nat)(dl:DL)(id:Nat)(a:af Oper)(e:Env)(h:H):Out:=
 match dl.lookup id with
 |none=>dV (kI cx cf mask a a.toList ⟨e.vars,.nil⟩ h) λd=>two d λb c=>some (.normal,⟨b.vars,.nil⟩,c)
 |some f=>dV (xK cx cf mask a f a.toList 0 [] [] ⟨e.vars,.nil⟩ h) λd=>two d λb c=>some (.normal,⟨b.vars,.nil⟩,c)
def jy(cx:Ctx)(cf:jd)(b mask:Nat)(dl:DL):Code->Env->H->Out
 | .skip=>λe h=>some (.normal,e,h)
 | .region id f _=>OY cx cf mask dl id f
 | .seq c a=>CV (jy cx cf b mask dl c) (jy cx cf b mask dl a)
 | .cond d c a=>I1 cx mask d (jy cx cf b mask dl c) (jy cx cf b mask dl a)
 | .block id a=>yG id (jy cx cf b mask dl a)
 | .loop a=>oL (jy cx cf b mask dl a) b
 | .exit id=>λe h=>some (.exit id,e,h)
 | .ret=>λe h=>some (.ret,e,h)
 |_=>λ_ _=>none
def mX(dl:DL):Code->Bool
 | .region id d c=>(match dl.lookup id with|none=> !c||Lp d|some f=>c&&T3 f d)
 | .seq a b=>mX dl a&&mX dl b
 | .cond _ a b=>mX dl a&&mX dl b
 | .block _ a=>mX dl a
 | .loop a=>mX dl a
 |_=>true
def qI{dl:DL}:∀(o:Code),mX dl o=true->∀e h b,jy cx cf n mask dl o e h=some b->kc cx cf n mask o e h=some b:=by
 intro o;induction o with
 |region id j x=>
  intro c e h b a;obtain⟨s,D⟩:=e;replace a:OY cx cf mask dl id j ⟨s,D⟩ h=some b:=a;unfold OY at a;simp only[mX]at c;cases hl:dl.lookup id with
  |none=>
   rw[hl]at a c;simp only at a c;cases x with
   |false=>exact a
   |true=>
    simp only[Bool.not_true,Bool.false_or]at c;show(dV (j7 cx cf mask j j.toList 0 ⟨[],[]⟩ ⟨s,.nil⟩ h) λb=>two b λf g=>some (Ex.normal,(⟨f.vars,.nil⟩:Env),g))=some b;rw[Ge c j.toList 0 ⟨[],[]⟩ ⟨s,.nil⟩ h (λu=>by simp) (λl q=>by grind) (λl q=>by grind)];exact a
  |some F=>
   rw[hl]at a c;simp only[aB]at a c;obtain⟨rfl,c⟩:=c;obtain⟨l,q,a⟩:=dI.1 a;show(dV (j7 cx cf mask j j.toList 0 ⟨[],[]⟩ ⟨s,.nil⟩ h) λb=>two b λf g=>some (Ex.normal,(⟨f.vars,.nil⟩:Env),g))=some b;rw[HR c j.toList 0 [] [] ⟨[],[]⟩ ⟨s,.nil⟩ h l (λu=>by simp) (λl q=>by grind) (λl q=>by grind) q,ed];exact a
 |seq d m v B=>
  intro c e h b a;simp only[mX,aB]at c;have a:CV (jy cx cf n mask dl d) (jy cx cf n mask dl m) e h=some b:=a;show CV (kc cx cf n mask d) (kc cx cf n mask m) e h=some b;unfold CV at*
  obtain⟨⟨k,y,z⟩,p,a⟩:=dI.1 a;rw[v c.1 e h _ p,ed];simp only[lY]at*
  cases k with
  |normal=>grind
  |exit r=>exact a
  |ret=>exact a
 |cond w d m v B=>
  intro c e h b a;simp only[mX,aB]at c;have a:I1 cx mask w (jy cx cf n mask dl d) (jy cx cf n mask dl m) e h=some b:=a;show I1 cx mask w (kc cx cf n mask d) (kc cx cf n mask m) e h=some b;unfold I1 at*
  obtain⟨E,A,a⟩:=dI.1 a;rw[A,ed];cases E<;>first|exact a|skip
  rename_i u;cases u with
  |true=>grind
  |false=>grind
 |block id d t=>
  intro c e h b a;simp only[mX]at c;have a:yG id (jy cx cf n mask dl d) e h=some b:=a;show yG id (kc cx cf n mask d) e h=some b;unfold yG at*
  obtain⟨l,p,a⟩:=dI.1 a;rw[t c e h _ p,ed];exact a
 |loop d t=>
  intro c e h b a;simp only[mX]at c;have C:∀i e h b,oL (jy cx cf n mask dl d) i e h=some b->oL (kc cx cf n mask d) i e h=some b:=by
   intro i;induction i with
   |zero=>simp[oL]
   |succ i G=>
    intro e h b a;have a:(dV (jy cx cf n mask dl d e h) λb=>three b λk f g=> @Ex.rec (λ_=>Out) (oL (jy cx cf n mask dl d) i f g) (λr=>some (.exit r,f,g)) (some (.ret,f,g)) k)=some b:=a;show(dV (kc cx cf n mask d e h) λb=>three b λk f g=> @Ex.rec (λ_=>Out) (oL (kc cx cf n mask d) i f g) (λr=>some (.exit r,f,g)) (some (.ret,f,g)) k)=some b;obtain⟨⟨k,y,z⟩,p,a⟩:=dI.1 a;rw[t c e h _ p,ed];simp only[lY]at*
    cases k with
    |normal=>grind
    |exit r=>exact a
    |ret=>exact a
  exact C n e h b a
 |_=>intro _ e h b a;first|exact a|(simp[jy]at a)
def WR(cx:Ctx)(cf:jd)(mask:Nat)(f:af Oper)(d:List Oper)(i g:fW)(h:H)(c:fW->H->Prop):Prop:=
 ∃a b,kI cx cf mask f d ⟨i,g⟩ h=some (a,b)/\c a.vars b
def WX(c:aa (T×H))(b:T->H->Prop):Prop:=∃a h,c=some (a,h)/\b a h
@[simp]def Ai (b:T) (h:H) (d:T->H->Prop):WX (some (b,h)) d=d b h:=by
 apply propext;constructor
 ·rintro⟨g,f,c,a⟩;simp only[au,aD]at c;obtain⟨rfl,rfl⟩:=c;exact a
 ·exact λa=>⟨b,h,rfl,a⟩
def WD(mask:Nat)(g:aa Tmp)(f:T)(d c:fW)(a:fW->fW->Prop):Prop:=match g with
 |none=>a d c
 |some b=>if ks mask b=true then a (put d b f) c else a d (.cons b f c)
def DG(a b:Nat):(ks a b=true)=((a>>>b)&&&1=1):=by
 apply propext;show Nat.beq ((a>>>b)&&&1) 1=true↔_;exact⟨aG,λh=>by rw[h];rfl⟩
def Hx(a:Tmp)(d:T)(f c:fW)(b:fW->fW->Prop):WD mask (some a) d f c b=if(mask>>>a)&&&1=1 then b (put f a d) c else b f (.cons a d c):=by
 simp[WD,DG]
def R2(i:af Oper)(a b:fW)(h:H)(c:fW->H->Prop):WR cx cf mask i [] a b h c=c a h:=by
 apply propext;constructor
 ·rintro⟨e,g,d,f⟩;have d:some ((⟨a,b⟩:Env),h)=some (e,g):=d
  grind
 ·exact λf=>⟨⟨a,b⟩,h,rfl,f⟩
def Hw(l:af Oper)(k:Oper)(j:List Oper)(b a:fW)(h:H)(q:fW->H->Prop):
 WR cx cf mask l (k::j) b a h q=WX (yO cx cf mask l ⟨b,a⟩ h k) λc d=>WD mask k.dst c b a λb a=>WR cx cf mask l j b a d q:=by
 have u:∀c d,(∃f,Env.dst mask ⟨b,a⟩ k.dst c=some f/\WR cx cf mask l j f.vars f.tmps d q)↔WD mask k.dst c b a λb a=>WR cx cf mask l j b a d q:=by
  intro c d;cases x:k.dst with
  |none=>
   constructor
   ·rintro⟨f,g,p⟩;have g:some (⟨b,a⟩:Env)=some f:=g;simp only[au]at g;subst g;exact p
   ·exact λp=>⟨_,rfl,p⟩
  |some m=>
   have hE:Env.dst mask ⟨b,a⟩ (some m) c=some (if ks mask m=true then⟨put b m c,a⟩else⟨b,.cons m c a⟩):=by
    show @Bool.rec (λ_=>aa Env) (some ⟨b,.cons m c a⟩) (dV (lZ b m c) λj=>some ⟨j,a⟩) (ks mask m)=_;rw[pI];cases ks mask m<;>rfl
   rw[hE];unfold WD;simp only[au,exists_eq_left'];split<;>rfl
 apply propext;have v:kI cx cf mask l (k::j) ⟨b,a⟩ h=dV (lH cx cf mask l ⟨b,a⟩ h k) λw=>two w λo d=>kI cx cf mask l j o d:=rfl;unfold WR;rw[v,rE];constructor
 ·rintro⟨o,d,i,s⟩;have⟨⟨c,r⟩,t,i⟩:=dI.1 i;simp only[kN]at i;have⟨f,g,i⟩:=dI.1 i;exact⟨c,r,t,(u c r).1 ⟨f,g,o,d,i,s⟩⟩
 ·rintro⟨c,r,t,p⟩;have⟨f,g,o,d,i,s⟩:=(u c r).2 p;refine⟨o,d,?_,s⟩;rw[t,ed,kN,g,ed];exact i
def acH(f:af Oper)(g:aa Tmp)(i:Op)(m:ab)(l:String)(j:af Edge)(d:List Oper)(b a:fW)(h:H)(c:fW->H->Prop):
 WR cx cf mask f (⟨g,i,m,l,j,none⟩::d) b a h c=WX (fin cf h (jr i cx mask ⟨b,a⟩ h)) λo k=>WD mask g o b a λb a=>WR cx cf mask f d b a k c:=Hw f _ d b a h c
def WG(c:aa Bool)(a b:Prop):Prop:=match c with|some true=>a|some false=>b|none=>False
def MB(a b:Prop):WG (some true) a b=a:=rfl
def Jn(b a:Prop):WG (some false) b a=a:=rfl
def R3(c:af Oper)(i:aa Tmp)(k:Op)(q:ab)(p:String)(o:af Edge)(f:Nat)(d:Bool)(j:List Oper)(b a:fW)(h:H)(g:fW->H->Prop):
 WR cx cf mask c (⟨i,k,q,p,o,some (f,d)⟩::j) b a h g=WG (kE c mask ⟨b,a⟩ (some (f,d)))
  (WX (fin cf h (jr k cx mask ⟨b,a⟩ h)) λm l=>WD mask i m b a λb a=>WR cx cf mask c j b a l g)
  (WD mask i .undef b a λb a=>WR cx cf mask c j b a h g):=by
 rw[Hw];show WX (dV (kE c mask ⟨b,a⟩ (some (f,d))) λs=> @Bool.rec (λ_=>aa (T×H)) (some (.undef,h)) (fin cf h (jr k cx mask ⟨b,a⟩ h)) s) _=_;cases kE c mask ⟨b,a⟩ (some (f,d))with
 |none=>apply propext;constructor<;>(first|(rintro⟨m,l,t,_⟩;simp_all)|exact False.elim)
 |some r=>cases r<;>simp[MB,Jn]
def Li(a:aa T)(b:Bool):aa Bool:=dV a λa=>match a with| .bool c=>some (c==b)|_=>some false
@[simp]theorem CJ (b a:Bool):Li (some (.bool b)) a=some (b==a):=rfl
@[simp]theorem UJ (a:Bool):Li (some .undef) a=some false:=rfl
@[simp]def CL (d:List Oper) (e:Env) (c:Nat) (f:Bool):kE d.toArray mask e (some (c,f))=Li (dV (dV (d[c]?) λb=>b.dst) λa=>e.get mask a) f:=by
 show(dV (dV (dV (mI d.toArray.toList c) λb=>b.dst) λa=>e.get mask a) λg=>_)=_;rw[kP];unfold Li;simp only;cases (dV (dV (d[c]?) λb=>b.dst) λa=>e.get mask a)with
 |none=>rfl
 |some g=>cases g<;>first|rfl|(rename_i i;cases i<;>cases f<;>rfl)
@[simp]theorem Ct (c b:fW) (a:Nat):Env.get mask ⟨c,b⟩ a=if(mask>>>a)&&&1=1 then dM c a else dM b a:=by
 show @Bool.rec (λ_=>aa T) (dM b a) (dM c a) (ks mask a)=_;simp only[<-DG];cases ks mask a<;>rfl
def K7(cx:Ctx)(cf:jd)(mask:Nat)(k:af Oper)(d:List (Nat×Nat))(i:List Oper)(g:Nat)(j:List (Nat×Nat))(f:List (Nat×H×H))(m l:fW)(h:H)(c:fW->H->Prop):Prop:=
 ∃a b,xK cx cf mask k d i g j f ⟨m,l⟩ h=some (a,b)/\c a.vars b
def MA(m:af Oper)(g:List (Nat×Nat))(k:Nat)(l:List (Nat×Nat))(i:List (Nat×H×H))(a b:fW)(h:H)(c:fW->H->Prop):K7 cx cf mask m g [] k l i a b h c=c a h:=by
 apply propext;constructor
 ·rintro⟨e,j,d,f⟩;have d:some ((⟨a,b⟩:Env),h)=some (e,j):=d
  grind
 ·exact λf=>⟨⟨a,b⟩,h,rfl,f⟩
def DK(cx:Ctx)(mask:Nat)(d:List (Nat×Nat))(a:Nat)(f:List (Nat×Nat))(b:List (Nat×H×H))(i:Op)(e:Env)(h j:H)(g:List (Nat×Nat)->List (Nat×H×H)->Prop):Prop:=
 if iF i=true then(wN d a h j f/\(∀l k m c,i= .store l k m->dV (fO cx mask e k) dT=some c->mR d a c b))/\g f (if lL d a=true then(a,h,j)::b else b)
 else match hU cx mask e h i with
  |none=>g f b
  |some c=>mR d a c b/\g (if lL d a=true then(a,c)::f else f) b
def Jm(u:af Oper)(y:List (Nat×Nat))(i:Oper)(x:List Oper)(z:Nat)(q:List (Nat×Nat))(o:List (Nat×H×H))(b a:fW)(h:H)(A:fW->H->Prop):
 K7 cx cf mask u y (i::x) z q o b a h A=WG (kE u mask ⟨b,a⟩ i.guard)
  (WX (fin cf h (jr i.op cx mask ⟨b,a⟩ h)) λj c=>DK cx mask y z q o i.op ⟨b,a⟩ h c λq o=>WD mask i.dst j b a λb a=>K7 cx cf mask u y x (z+1) q o b a c A)
  (WD mask i.dst .undef b a λb a=>K7 cx cf mask u y x (z+1) q o b a h A):=by
 have t:∀j c (q:List (Nat×Nat)) (o:List (Nat×H×H)),(∃g,Env.dst mask ⟨b,a⟩ i.dst j=some g/\K7 cx cf mask u y x (z+1) q o g.vars g.tmps c A)↔WD mask i.dst j b a λb a=>K7 cx cf mask u y x (z+1) q o b a c A:=by
  intro j c q o;cases K:i.dst with
  |none=>
   constructor
   ·rintro⟨g,f,r⟩;have f:some (⟨b,a⟩:Env)=some g:=f;simp only[au]at f;subst f;exact r
   ·exact λr=>⟨_,rfl,r⟩
  |some v=>
   have hE:Env.dst mask ⟨b,a⟩ (some v) j=some (if ks mask v=true then⟨put b v j,a⟩else⟨b,.cons v j a⟩):=by
    show @Bool.rec (λ_=>aa Env) (some ⟨b,.cons v j a⟩) (dV (lZ b v j) λx=>some ⟨x,a⟩) (ks mask v)=_;rw[pI];cases ks mask v<;>rfl
   rw[hE];unfold WD;simp only[au,exists_eq_left'];split<;>rfl
 apply propext;constructor
 ·rintro⟨l,c,p,m⟩;unfold xK at p;rw[rE]at p;obtain⟨⟨j,D⟩,s,E⟩:=dI.1 p;simp only[kN]at E;obtain⟨g,f,F⟩:=dI.1 E;obtain⟨C,r,k⟩:=dI.1 F;clear p E F;unfold yO at s;rw[r,ed]at s;rw[r];cases C with
  |false=>
   replace s:some (T.undef,h)=some (j,D):=s;simp only[au,aD]at s;obtain⟨rfl,rfl⟩:=s;simp only[cr,bw]at k;exact(t _ _ q o).1 ⟨g,f,l,c,k,m⟩
  |true=>
   simp only[bA]at k;refine⟨j,D,s,?_⟩;unfold DK;split
   ·rename_i hE;rw[ar hE]at k;split at k
    ·rename_i w;exact⟨w,(t _ _ _ _).1 ⟨g,f,l,c,k,m⟩⟩
    grind
   ·rename_i hE;rw[aq hE]at k;cases B:hU cx mask ⟨b,a⟩ h i.op with
    |none=>rw[B]at k;exact(t _ _ _ _).1 ⟨g,f,l,c,k,m⟩
    |some I=>
     rw[B]at k;simp only at k;split at k
     ·rename_i w;exact⟨w,(t _ _ _ _).1 ⟨g,f,l,c,k,m⟩⟩
     grind
 ·intro d;unfold K7 xK;rw[rE];cases r:kE u mask ⟨b,a⟩ i.guard with
  |none=>rw[r]at d;exact d.elim
  |some C=>
   rw[r]at d;have G:yO cx cf mask u ⟨b,a⟩ h i= @Bool.rec (λ_=>aa (T×H)) (some (.undef,h)) (fin cf h (jr i.op cx mask ⟨b,a⟩ h)) C:=by
    unfold yO;rw[r,ed]
   cases C with
   |false=>
    obtain⟨g,f,l,c,p,m⟩:=(t _ _ q o).2 d;refine⟨l,c,?_,m⟩;rw[G];simp_all
   |true=>
    obtain⟨j,D,s,d⟩:=d;rw[G];simp only[s,ed,kN,bA];unfold DK at d;split at d
    ·rename_i hE;obtain⟨w,d⟩:=d;obtain⟨g,f,l,c,p,m⟩:=(t _ _ _ _).2 d;refine⟨l,c,?_,m⟩;rw[f,ed,ar hE,ar w];exact p
    ·rename_i hE;cases B:hU cx mask ⟨b,a⟩ h i.op with
     |none=>
      rw[B]at d;obtain⟨g,f,l,c,p,m⟩:=(t _ _ _ _).2 d;refine⟨l,c,?_,m⟩;rw[f,ed,aq hE];exact p
     |some I=>
      rw[B]at d;obtain⟨w,d⟩:=d;obtain⟨g,f,l,c,p,m⟩:=(t _ _ _ _).2 d;refine⟨l,c,?_,m⟩;rw[f,ed,aq hE];simp only;rw[ar w];exact p
def Yn(l:af Oper)(f:List (Nat×Nat))(m:aa Tmp)(k:Op)(r:ab)(q:String)(p:af Edge)(j:List Oper)(g:Nat)(d:List (Nat×Nat))(c:List (Nat×H×H))(b a:fW)(h:H)(i:fW->H->Prop):
 K7 cx cf mask l f (⟨m,k,r,q,p,none⟩::j) g d c b a h i=
  WX (fin cf h (jr k cx mask ⟨b,a⟩ h)) λs o=>DK cx mask f g d c k ⟨b,a⟩ h o λd c=>WD mask m s b a λb a=>K7 cx cf mask l f j (g+1) d c b a o i:=Jm l f _ j g d c b a h i
def RK(cx:Ctx)(cf:jd)(mask:Nat)(d:af Oper)(c:List Oper)(a f:fW)(h:H)(b:iS):Prop:=WR cx cf mask d c a f h λa h=>b.n ⟨a,.nil⟩ h
def XK(k:aa (T×H))(cx:Ctx)(cf:jd)(mask:Nat)(i:af Oper)(d:aa Tmp)(g:List Oper)(b a:fW)(c:iS):Prop:=WX k λj f=>WD mask d j b a λb a=>RK cx cf mask i g b a f c
def GK(j:aa Bool)(cx:Ctx)(cf:jd)(mask:Nat)(g:af Oper)(d:aa Tmp)(i:Op)(f:List Oper)(b a:fW)(h:H)(c:iS):Prop:=
 WG j (XK (fin cf h (jr i cx mask ⟨b,a⟩ h)) cx cf mask g d f b a c) (WD mask d .undef b a λb a=>RK cx cf mask g f b a h c)
@[simp]def afJ (c:af Oper) (a d:fW) (h:H) (b:iS):RK cx cf mask c [] a d h b=b.n ⟨a,.nil⟩ h:=R2 c a d h _
@[simp]def agf (g:af Oper) (c:aa Tmp) (f:Op) (l:ab) (k:String) (j:af Edge) (d:List Oper) (b a:fW) (h:H) (i:iS):
 RK cx cf mask g (⟨c,f,l,k,j,none⟩::d) b a h i=XK (fin cf h (jr f cx mask ⟨b,a⟩ h)) cx cf mask g c d b a i:=acH g c f l k j d b a h _
@[simp]def fa (a:af Oper) (f:aa Tmp) (j:Op) (o:ab) (m:String) (l:af Edge) (g:Nat) (d:Bool) (i:List Oper) (c b:fW) (h:H) (k:iS):
 RK cx cf mask a (⟨f,j,o,m,l,some (g,d)⟩::i) c b h k=GK (kE a mask ⟨c,b⟩ (some (g,d))) cx cf mask a f j i c b h k:=R3 a f j o m l g d i c b h _
@[simp]theorem adV (g:T) (h:H) (c:af Oper) (b:List Oper) (f d:fW) (a:iS):XK (some (g,h)) cx cf mask c none b f d a=RK cx cf mask c b f d h a:=by
 unfold XK;rw[Ai];rfl
@[simp]def adU (g:T) (h:H) (d:af Oper) (a:Tmp) (c:List Oper) (i f:fW) (b:iS):XK (some (g,h)) cx cf mask d (some a) c i f b=
 if(mask>>>a)&&&1=1 then RK cx cf mask d c (put i a g) f h b else RK cx cf mask d c i (.cons a g f) h b:=by
 unfold XK;rw[Ai,Hx]
@[simp]def ad6 (i:af Oper) (d:aa Tmp) (g:Op) (f:List Oper) (b a:fW) (h:H) (c:iS):GK (some true) cx cf mask i d g f b a h c=XK (fin cf h (jr g cx mask ⟨b,a⟩ h)) cx cf mask i d f b a c:=id rfl
@[simp]def acO (g:af Oper) (c:Tmp) (i:Op) (f:List Oper) (b a:fW) (h:H) (d:iS):GK (some false) cx cf mask g (some c) i f b a h d=if(mask>>>c)&&&1=1 then RK cx cf mask g f (put b c .undef) a h d else RK cx cf mask g f b (.cons c .undef a) h d:=by
 show WD mask (some c) .undef b a (λb a=>RK cx cf mask g f b a h d)=_;rw[Hx]
def OK(cx:Ctx)(mask:Nat)(b:List (Nat×Nat))(d:Nat)(c:List (Nat×H×H))(f:Op)(e:Env):Prop:=match f with
 | .store _ g _=>(match dV (fO cx mask e g) dT with|some a=>mR b d a c|none=>True)
 |_=>True
def RM(b:List (Nat×Nat))(d:Nat)(c:List (Nat×H×H))(f:aa Nat):Prop:=match f with|some a=>mR b d a c|none=>True
@[simp]def Yg (a:List (Nat×Nat)) (c:Nat) (b:List (Nat×H×H)):RM a c b none=True:=id rfl
@[simp]def Yf (b:List (Nat×Nat)) (d:Nat) (c:List (Nat×H×H)) (a:Nat):RM b d c (some a)=mR b d a c:=id rfl
@[simp]def CQ (a:List (Nat×Nat)) (c:Nat) (b:List (Nat×H×H)) (f:ab) (d g:ah) (e:Env):OK cx mask a c b (.store f d g) e=RM a c b (dV (fO cx mask e d) dT):=id rfl
@[simp]def YD (b:List (Nat×Nat)) (d:Nat) (c:List (Nat×H×H)) (a:Call) (e:Env):OK cx mask b d c (.call a) e=True:=id rfl
def UG(cx:Ctx)(cf:jd)(mask:Nat)(j:af Oper)(c:List (Nat×Nat))(g:List Oper)(f:Nat)(i:List (Nat×Nat))(d:List (Nat×H×H))(a k:fW)(h:H)(b:iS):Prop:=K7 cx cf mask j c g f i d a k h λa h=>b.n ⟨a,.nil⟩ h
def Sb(q:aa (T×H))(cx:Ctx)(cf:jd)(mask:Nat)(o:af Oper)(f:List (Nat×Nat))(k:aa Tmp)(m:Op)(l:List Oper)(i:Nat)(d:List (Nat×Nat))(c:List (Nat×H×H))(b a:fW)(h:H)(j:iS):Prop:=
 WX q λp g=>DK cx mask f i d c m ⟨b,a⟩ h g λd c=>WD mask k p b a λb a=>UG cx cf mask o f l (i+1) d c b a g j
def Sr(m:T)(cx:Ctx)(cf:jd)(mask:Nat)(l:af Oper)(d:List (Nat×Nat))(f:aa Tmp)(j:List Oper)(i:Nat)(k:List (Nat×Nat))(g:List (Nat×H×H))(b a:fW)(h:H)(c:iS):Prop:=WD mask f m b a λb a=>UG cx cf mask l d j i k g b a h c
def DLK(p:aa Nat)(m:T)(cx:Ctx)(cf:jd)(mask:Nat)(k:af Oper)(b:List (Nat×Nat))(i:aa Tmp)(j:List Oper)(a:Nat)(d:List (Nat×Nat))(c:List (Nat×H×H))(o l:fW)(h:H)(f:iS):Prop:=match p with
 |none=>Sr m cx cf mask k b i j (a+1) d c o l h f
 |some g=>mR b a g c/\Sr m cx cf mask k b i j (a+1) (if lL b a=true then(a,g)::d else d) c o l h f
@[simp]def acV (l:T) (j:af Oper) (b:List (Nat×Nat)) (c:aa Tmp) (g:List Oper) (f:Nat) (i:List (Nat×Nat)) (d:List (Nat×H×H)) (m k:fW) (h:H) (a:iS):DLK none l cx cf mask j b c g f i d m k h a=Sr l cx cf mask j b c g (f+1) i d m k h a:=id rfl
@[simp]def Sd (c:Nat) (m:T) (k:af Oper) (b:List (Nat×Nat)) (i:aa Tmp) (j:List Oper) (a:Nat) (f:List (Nat×Nat)) (d:List (Nat×H×H)) (o l:fW) (h:H) (g:iS):DLK (some c) m cx cf mask k b i j a f d o l h g=(mR b a c d/\Sr m cx cf mask k b i j (a+1) (if lL b a=true then(a,c)::f else f) d o l h g):=id rfl
@[simp]def acU (l:T) (i:af Oper) (b:List (Nat×Nat)) (f:List Oper) (d:Nat) (g:List (Nat×Nat)) (c:List (Nat×H×H)) (k j:fW) (h:H) (a:iS):Sr l cx cf mask i b none f d g c k j h a=UG cx cf mask i b f d g c k j h a:=id rfl
@[simp]def acT (l:T) (j:af Oper) (c:List (Nat×Nat)) (a:Tmp) (g:List Oper) (f:Nat) (i:List (Nat×Nat)) (d:List (Nat×H×H)) (m k:fW) (h:H) (b:iS):Sr l cx cf mask j c (some a) g f i d m k h b=
 if(mask>>>a)&&&1=1 then UG cx cf mask j c g f i d (put m a l) k h b else UG cx cf mask j c g f i d m (.cons a l k) h b:=by unfold Sr;rw[Hx]
@[simp]def aed (i:af Oper) (c:List (Nat×Nat)) (f:Nat) (g:List (Nat×Nat)) (d:List (Nat×H×H)) (a j:fW) (h:H) (b:iS):UG cx cf mask i c [] f g d a j h b=b.n ⟨a,.nil⟩ h:=MA i c f g d a j h _
@[simp]def afN (l:af Oper) (d:List (Nat×Nat)) (f:aa Tmp) (a:Op) (q:ab) (p:String) (o:af Edge) (j:List Oper) (i:Nat) (k:List (Nat×Nat)) (g:List (Nat×H×H)) (c b:fW) (h:H) (m:iS):
 UG cx cf mask l d (⟨f,a,q,p,o,none⟩::j) i k g c b h m=Sb (fin cf h (jr a cx mask ⟨c,b⟩ h)) cx cf mask l d f a j i k g c b h m:=Yn l d f a q p o j i k g c b h _
def DEK(q:Bool)(p:T)(d:H)(cx:Ctx)(cf:jd)(mask:Nat)(o:af Oper)(b:List (Nat×Nat))(k:aa Tmp)(m:Op)(l:List Oper)(a:Nat)(i:List (Nat×Nat))(c:List (Nat×H×H))(g f:fW)(h:H)(j:iS):Prop:=match q with
 |true=>(wN b a h d i/\OK cx mask b a c m ⟨g,f⟩)/\Sr p cx cf mask o b k l (a+1) i (if lL b a=true then(a,h,d)::c else c) g f d j
 |false=>DLK (hU cx mask ⟨g,f⟩ h m) p cx cf mask o b k l a i c g f d j
@[simp]def Se (p:T) (d:H) (o:af Oper) (b:List (Nat×Nat)) (k:aa Tmp) (m:Op) (l:List Oper) (a:Nat) (f:List (Nat×Nat)) (c:List (Nat×H×H)) (i g:fW) (h:H) (j:iS):DEK true p d cx cf mask o b k m l a f c i g h j=((wN b a h d f/\OK cx mask b a c m ⟨i,g⟩)/\Sr p cx cf mask o b k l (a+1) f (if lL b a=true then(a,h,d)::c else c) i g d j):=id rfl
@[simp]def Og (p:T) (i:H) (o:af Oper) (d:List (Nat×Nat)) (f:aa Tmp) (m:Op) (k:List Oper) (j:Nat) (l:List (Nat×Nat)) (g:List (Nat×H×H)) (b a:fW) (h:H) (c:iS):DEK false p i cx cf mask o d f m k j l g b a h c=DLK (hU cx mask ⟨b,a⟩ h m) p cx cf mask o d f k j l g b a i c:=id rfl
@[simp]theorem acS (c:T) (q:H) (u:af Oper) (i:List (Nat×Nat)) (p:aa Tmp) (a:Op) (s:List Oper) (k:Nat) (t:List (Nat×Nat)) (j:List (Nat×H×H)) (d b:fW) (h:H) (o:iS):
 Sb (some (c,q)) cx cf mask u i p a s k t j d b h o=DEK (iF a) c q cx cf mask u i p a s k t j d b h o:=by
 unfold Sb;rw[Ai];unfold DK;cases hE:iF a with
 |true=>
  rw[ar rfl,Se];have:(∀m f c g,a= .store m f c->dV (fO cx mask ⟨d,b⟩ f) dT=some g->mR i k g j)↔OK cx mask i k j a ⟨d,b⟩:=by
   constructor
   ·intro l;cases a<;>first|exact trivial|skip
    rename_i m f c;rw[CQ];cases r:dV (fO cx mask ⟨d,b⟩ f) dT with
    |none=>simp
    |some g=>simp_all
   ·intro l m f c g v r;subst v;rw[CQ,r]at l;exact l
  rw[this];rfl
 |false=>
  rw[aq dy,Og];cases hU cx mask ⟨d,b⟩ h a<;>rfl
section
variable (e:Env)(h:H)
@[simp]def Vy (a:ab) (c b:ah):iF (.store a c b)=true:=id rfl
@[simp]def Vz (b:ah) (a:af ah) (c:af ab):iF (.call ⟨.value b,a,c⟩)=true:=id rfl
@[simp]def VA (a:Builtin) (b:af ah) (c:af ab):iF (.call ⟨.builtin a,b,c⟩)=(match a with| .len| .min| .max=>false|_=>true):=id rfl
@[simp]def Xl (a:ah):iF (.move a)=false:=id rfl
@[simp]def TC (a:ah):iF (.assign a)=false:=id rfl
@[simp]def Xm (a:ab) (b:ah):iF (.load a b)=false:=id rfl
@[simp]def abN (a:ah):iF (.nilCheck a)=false:=id rfl
@[simp]def abR (b:ab) (c:ah) (a:Nat):iF (.fieldAddr b c a)=false:=id rfl
@[simp]def abQ (a:ab) (b c:ah):iF (.indexAddr a b c)=false:=id rfl
@[simp]def Y5 (a:BinOp) (b c:ab) (d f:ah):iF (.binOp a b d f c)=false:=id rfl
@[simp]def VC (a:ab):iF (.alloc a)=false:=id rfl
@[simp]def VB (b:ab) (a:af (Nat×ah)):iF (.build b a)=false:=id rfl
@[simp]def abT (b:ab) (n:Nat) (a:af (Nat×ah)):iF (.buildSlice b n a)=false:=id rfl
@[simp]def abO (a:ab) (b c:ah):iF (.makeSlice a b c)=false:=id rfl
@[simp]def abM (d:ab) (f:ah) (a b c:aa ah):iF (.slice d f a b c)=false:=id rfl
@[simp]def abS (b:ah) (a:Nat):iF (.extract b a)=false:=id rfl
@[simp]def abP (c:Fn) (a b:af ah):iF (.makeFunc c a b)=false:=id rfl
@[simp]def adi (b:ab) (a:ah):hU cx mask e h (.load b a)=dV (fO cx mask e a) dT:=id rfl
@[simp]def af9 (b:ab) (a c:ah):hU cx mask e h (.indexAddr b a c)=dV (fO cx mask e a) dT:=id rfl
@[simp]def af5 (f:ab) (a:ah) (b c d:aa ah):hU cx mask e h (.slice f a b c d)=dV (fO cx mask e a) dT:=id rfl
@[simp]def abH (a:ab):hU cx mask e h (.alloc a)=some h.size:=id rfl
@[simp]def agc (b:ab) (n:Nat) (a:af (Nat×ah)):hU cx mask e h (.buildSlice b n a)=some h.size:=id rfl
@[simp]def af7 (a:ab) (b c:ah):hU cx mask e h (.makeSlice a b c)=some h.size:=id rfl
@[simp]def adh (a:ah):hU cx mask e h (.move a)=none:=id rfl
@[simp]def Y4 (a:ah):hU cx mask e h (.assign a)=none:=id rfl
@[simp]def af6 (a:ah):hU cx mask e h (.nilCheck a)=none:=id rfl
@[simp]def aga (b:ab) (c:ah) (a:Nat):hU cx mask e h (.fieldAddr b c a)=none:=id rfl
@[simp]def ae4 (a:BinOp) (b c:ab) (d f:ah):hU cx mask e h (.binOp a b d f c)=none:=id rfl
@[simp]def abG (b:ab) (a:af (Nat×ah)):hU cx mask e h (.build b a)=none:=id rfl
@[simp]def agb (b:ah) (a:Nat):hU cx mask e h (.extract b a)=none:=id rfl
@[simp]def adj (a:Call):hU cx mask e h (.call a)=none:=id rfl
@[simp]def af8 (c:Fn) (a b:af ah):hU cx mask e h (.makeFunc c a b)=none:=id rfl
@[simp]def Zo (a b c d:Nat):dT (.ptr a b c d)=some a:=id rfl
@[simp]theorem A2 (a b f d:Nat) (c:Bool):dT (.arr a b f d c)=some a:=id rfl
@[simp]def Yc (a:List T) (b:Bool):dT (.dK a b)=none:=id rfl
@[simp]def Yd (a:List T):dT (.jD a)=none:=id rfl
@[simp]def Zp (a:ak) (n:Int):dT (.int a n)=none:=id rfl
end
variable {dl:DL}
def QK(cx:Ctx)(cf:jd)(mask:Nat)(a:List Oper)(f:aa (List (Nat×Nat)))(c:fW)(h:H)(b:iS):Prop:=match f with
 |none=>RK cx cf mask a.toArray a c .nil h b
 |some d=>UG cx cf mask a.toArray d a 0 [] [] c .nil h b
@[simp]def ad4 (a:List Oper) (c:fW) (h:H) (b:iS):QK cx cf mask a none c h b=RK cx cf mask a.toArray a c .nil h b:=id rfl
@[simp]def ad2 (a:List Oper) (c:List (Nat×Nat)) (d:fW) (h:H) (b:iS):QK cx cf mask a (some c) d h b=UG cx cf mask a.toArray c a 0 [] [] d .nil h b:=id rfl
def VP(c:aa (Env×H))(d:iS):W (dV c λg=>two g λb a=>some (.normal,(⟨b.vars,.nil⟩:Env),a)) d=∃b a,c=some (b,a)/\d.n ⟨b.vars,.nil⟩ a:=by
 cases c with
 |none=>apply propext;constructor<;>(first|(rintro⟨k,a,j,i,_⟩;simp_all)|simp)
 |some f=>
  obtain⟨b,a⟩:=f;simp only[ed,kN,EE,au,aD]
  grind
@[simp]def afH (id:Nat) (b:List Oper) (f:Bool) (c d:fW) (h:H) (a:iS):W (jy cx cf n mask dl (.region id b.toArray f) ⟨c,d⟩ h) a=QK cx cf mask b (dl.lookup id) c h a:=by
 show W (OY cx cf mask dl id b.toArray ⟨c,d⟩ h) a=_;unfold OY;cases dl.lookup id with
 |none=>exact VP _ a
 |some g=>exact VP _ a
@[simp]def afF (b c:Code) (e:Env) (h:H) (a:iS):W (jy cx cf n mask dl (.seq b c) e h) a=W (jy cx cf n mask dl b e h) (GE (jy cx cf n mask dl c) a):=acB _ _ e h a
@[simp]def acE (id:Nat) (b:Code) (e:Env) (h:H) (a:iS):W (jy cx cf n mask dl (.block id b) e h) a=W (jy cx cf n mask dl b e h) (sq id a):=Uv id _ e h a
def CK(d:aa T)(cx:Ctx)(cf:jd)(n mask:Nat)(dl:DL)(b c:Code)(e:Env)(h:H)(a:iS):Prop:=Rf d (W (jy cx cf n mask dl b e h) a) (W (jy cx cf n mask dl c e h) a)
@[simp]def fy (d:Bool) (b c:Code) (e:Env) (h:H) (a:iS):CK (some (.bool d)) cx cf n mask dl b c e h a=if d=true then W (jy cx cf n mask dl b e h) a else W (jy cx cf n mask dl c e h) a:=id rfl
@[simp]def adZ (a:Nat) (f g:Code) (c b:fW) (h:H) (d:iS):W (jy cx cf n mask dl (.cond (.tmp a) f g) ⟨c,b⟩ h) d=CK (if(mask>>>a)&&&1=1 then dM c a else dM b a) cx cf n mask dl f g ⟨c,b⟩ h d:=by
 rw[<-Ct];apply propext;unfold CK;show W (dV (Env.get mask ⟨c,b⟩ a) λi=>_) d↔_;cases Env.get mask ⟨c,b⟩ a with
 |none=>simp[dV,Rf,RW]
 |some i=>
  simp only[ed];cases i<;>simp only[Rf,RW];rename_i j;cases j<;>simp
@[simp]theorem adX (b:Code) (e:Env) (h:H) (a:iS):W (jy cx cf n mask dl (.loop b) e h) a=W (oL (jy cx cf n mask dl b) n e h) a:=rfl
@[simp]def adW (e:Env) (h:H) (a:iS):W (jy cx cf n mask dl .skip e h) a=a.n e h:=EE e h a
@[simp]def adY (id:Nat) (e:Env) (h:H) (a:iS):W (jy cx cf n mask dl (.exit id) e h) a=a.x id e h:=Hv id e h a
@[simp]def afG (e:Env) (h:H) (a:iS):W (jy cx cf n mask dl .ret e h) a=a.r e h:=acC e h a
end
end
section
noncomputable section
variable {cx:Ctx}{cf:jd}{mask:Nat}{e:Env}{h:H}
attribute [simp] QR mz jK H.ly
@[simp]def aa5 (c b:fW) (a:Nat):fO cx mask ⟨c,b⟩ (.tmp a)=if(mask>>>a)&&&1=1 then dM c a else dM b a:=Ct c b a
@[simp]theorem aa6 (a:ak) (b:Int):fO cx mask e (.const (.int a b))=some (.int a b):=rfl
@[simp]theorem YN (a:Bool):fO cx mask e (.const (.bool a))=some (.bool a):=rfl
@[simp]theorem YM:fO cx mask e (.const (.slice none 0 0))=some (.dK [] false):=rfl
@[simp]theorem PD (b:ByteArray):fO cx mask e (.const (.string b))=some (.str (b.data.toList.map UInt8.toNat)):=by
 show(dV (A1 b.data.toList) λa=>some (T.str a))=_;have:∀a:List UInt8,A1 a=some (a.map UInt8.toNat):=by
  intro a;induction a with
  |nil=>rfl
  |cons f a c=>
   show(dV (ir f.toNat) λg=>dV (A1 a) λd=>some (g::d))=_;rw[c];simp
 rw[this];rfl
@[simp]theorem Na (a:aj):fO cx mask e (.func a)=some (.func a []):=rfl
@[simp]theorem H9 (a:List ah):qz cx mask e a=fQ (fO cx mask e) a:=rfl
def kt(a:Int):aa Nat:=if 0<=a then some a.toNat else none
@[simp]theorem YB (b:ak) (a:Int):qn (.int b a)=kt a:=by
 unfold kt;cases a with
 |ofNat c=>rw[ar dy];rfl
 |negSucc c=>rw[aq J];rfl
@[simp]theorem JF (a:Nat):kt (a:Int)=some a:=by unfold kt;rw[ar J];rfl
@[simp]def V9 (a:Nat):kt (no_index (OfNat.ofNat a):Int)=some a:=JF a
def eG{a:Int}(h:0<=a):kt a=some a.toNat:=by unfold kt;rw[ar h]
@[simp]theorem adb (a:ah):jr (.move a) cx mask e h=val h (fO cx mask e a):=rfl
@[simp]theorem YR (a:ah):jr (.assign a) cx mask e h=val h (fO cx mask e a):=rfl
def nh(a:aa T)(b c:aa lP):aa lP:=dV a λa=>match a with| .bool d=>if d=true then b else c|_=>none
@[simp]theorem eg (c:Bool) (a b:aa lP):nh (some (.bool c)) a b=if c=true then a else b:=rfl
@[simp]def Tm (a b c:ah):jr (.pick a b c) cx mask e h=nh (fO cx mask e a) (val h (fO cx mask e b)) (val h (fO cx mask e c)):=by
 show(dV (fO cx mask e a) λa=>_)=_;unfold nh;cases fO cx mask e a with
 |none=>rfl
 |some f=>cases f<;>first|rfl|(rename_i d;cases d<;>rfl)
@[simp]theorem Xn (a:Ty):xv cx a=(match a.u with
 | .array _ b=>Option.casesOn (cx.ty b) false λd=>(match d.u with| .int c=>EK c .u8|_=>false)
 |_=>false):=rfl
@[simp]def abt (b:ab):jr (.alloc b) cx mask e h=dV (cx.ty b) λa=>if xv cx a=true then some (.val (.ptr h.size 0 0 0) (h.cons (lJ 1 true a.zero)))else some (.val (.ptr h.size 0 0 0) (h.cons (lJ a.size true [a.ku]))):=by
 show(dV (cx.ty b) λa=>_)=_;cases cx.ty b with
 |none=>rfl
 |some a=>
  simp only[ed];cases xv cx a<;>simp
@[simp]theorem NF (b:Nat) (c:Bool) (a:List T):lJ b c a=⟨b,0,0,c,false,a⟩:=rfl
@[simp]def aeW (d:ab) (b:ah):jr (.box d b) cx mask e h=dV (fO cx mask e b) λa=>gJ a.iy (some (.val (.ptr h.size 0 0 0) (h.cons ⟨a.cells.length,0,0,true,false,[a]⟩))):=by
 show(dV (fO cx mask e b) λa=>gJ a.iy (jI (h.new (λc=> .ptr c 0 0 0) (lJ (kY a.cells) true [a]))))=_;simp
def yn(cx:Ctx)(mask:Nat)(e:Env):List (Nat×ah)->aa (List (Nat×T))
 | []=>some []
 |(b,d)::c=>dV (fO cx mask e d) λa=>gJ a.iy (dV (yn cx mask e c) λf=>some ((b,a)::f))
@[simp]theorem WC:yn cx mask e []=some []:=rfl
@[simp]theorem H8 (a:Nat) (c:ah) (b:List (Nat×ah)):yn cx mask e ((a,c)::b)=dV (fO cx mask e c) λd=>gJ d.iy (dV (yn cx mask e b) λf=>some ((a,d)::f)):=rfl
def Di(a:List (Nat×ah)):partsOf cx mask e a=yn cx mask e a:=by
 induction a with
 |nil=>rfl
 |cons i a g=>
  obtain⟨f,c⟩:=i;show(dV (dV (fO cx mask e c) λb=>gJ b.iy (some (f,b))) λk=>dV (partsOf cx mask e a) λj=>some (k::j))=_;rw[g,H8];cases fO cx mask e c with
  |none=>rfl
  |some b=>cases d:b.iy<;>simp[d]
def Ec(cx:Ctx)(c:List (Nat×ab)):List (Nat×T)->List T->aa (List T)
 | [],a=>some a
 |(g,d)::i,a=>dV (c[g]?) λb=>dV (cx.ty b.2) λj=>gJ (decide (d.cells.length=j.size)) (dV (kX a b.1 d.cells) λf=>Ec cx c i f)
@[simp]theorem Zb (b:List (Nat×ab)) (a:List T):Ec cx b [] a=some a:=rfl
@[simp]theorem KI (a:List (Nat×ab)) (f:Nat) (b:T) (g:List (Nat×T)) (c:List T):Ec cx a ((f,b)::g) c=dV (a[f]?) λd=>dV (cx.ty d.2) λj=>gJ (decide (b.cells.length=j.size)) (dV (kX c d.1 b.cells) λi=>Ec cx a g i):=rfl
def G4(g:List (Nat×ab)):∀(c:List (Nat×T)) (f:List T),mP (λb=>dV (mI g b) λa=>dV (cx.ty a.2) λd=>some (a.1,d.size)) c f=Ec cx g c f:=by
 intro c;induction c with
 |nil=>intro f;rfl
 |cons l c m=>
  intro f;obtain⟨b,j⟩:=l;show(dV (dV (mI g b) λa=>dV (cx.ty a.2) λd=>some (a.1,d.size)) λi=>gJ (Nat.beq (kY j.cells) i.2) (dV (kX f i.1 j.cells) λk=>mP (λb=>dV (mI g b) λa=>dV (cx.ty a.2) λd=>some (a.1,d.size)) c k))=_;rw[KI,kP];cases g[b]? with
  |none=>rfl
  |some a=>
   simp only[ed];cases cx.ty a.2 with
   |none=>rfl
   |some d=>simp_all
def Ef(b:Nat):List (Nat×T)->List T->aa (List T)
 | [],a=>some a
 |(f,c)::g,a=>gJ (decide (c.cells.length=b)) (dV (kX a (f*b) c.cells) λd=>Ef b g d)
@[simp]theorem Zc (b:Nat) (a:List T):Ef b [] a=some a:=rfl
@[simp]theorem XB (a d:Nat) (b:T) (f:List (Nat×T)) (c:List T):Ef a ((d,b)::f) c=gJ (decide (b.cells.length=a)) (dV (kX c (d*a) b.cells) λg=>Ef a f g):=rfl
def E2(a:Nat):∀(b:List (Nat×T)) (c:List T),mP (λd=>some (Nat.mul d a,a)) b c=Ef a b c:=by
 intro b;induction b with
 |nil=>intro c;rfl
 |cons i b j=>
  intro c;obtain⟨d,f⟩:=i;show(gJ (Nat.beq (kY f.cells) a) (dV (kX c (Nat.mul d a) f.cells) λg=>mP (λd=>some (Nat.mul d a,a)) b g))=_;simp_all
@[simp]def YF (c b:T) (a:List T):kX (c::a) 0 [b]=some (b::a):=by rw[ud];simp
@[simp]def YE (f c d:T) (a b:List T):kX (f::a) 0 (c::d::b)=dV (kX a 0 (d::b)) λg=>some (c::g):=by
 rw[ud,ud];simp only[aU,cA,List.take_zero,List.nil_append];by_cases hl:b.length+1<=a.length
 ·rw[ar J,ar J];simp
 simp_all[aq]
@[simp]theorem aaK (a:T) (b d:List T) (c:Nat):kX (a::b) (c+1) d=dV (kX b c d) λf=>some (a::f):=rfl
def KZ(cx:Ctx)(h:H)(b:Ty)(c:List (Nat×T)):aa lP:=match b.u with
 | .struct f=>dV (Ec cx f c b.zero) λa=>some (.val (.agg a) h)
 | .array _ d=>dV (cx.ty d) λg=>dV (Ef g.size c b.zero) λa=>some (.val (.agg a) h)
 |_=>none
@[simp]theorem Zn (a:Ty) (c:List (Nat×T)):KZ cx h a c=(match a.u with
 | .struct f=>dV (Ec cx f c a.zero) λb=>some (.val (.agg b) h)
 | .array _ d=>dV (cx.ty d) λg=>dV (Ef g.size c a.zero) λb=>some (.val (.agg b) h)
 |_=>none):=rfl
@[simp]def abs (c:ab) (a:List (Nat×ah)):jr (.build c a.toArray) cx mask e h=dV (cx.ty c) λb=>dV (yn cx mask e a) λa=>KZ cx h b a:=by
 show(dV (cx.ty c) λb=>dV (partsOf cx mask e a) λa=>_)=_;rw[Di];congr 1;funext b;congr 1;funext a;unfold KZ;cases b.u<;>first|rfl|(simp only[G4,E2,yM])
def AW(c:Nat):List (Nat×T)->List T->aa (List T)
 | [],a=>some a
 |(b,d)::f,a=>gJ (decide (d.cells.length=c)) (gJ (decide (b<a.length)) (AW c f (a.set b d)))
@[simp]theorem XG (b:Nat) (a:List T):AW b [] a=some a:=rfl
@[simp]theorem IY (c b:Nat) (d:T) (f:List (Nat×T)) (a:List T):AW c ((b,d)::f) a=gJ (decide (d.cells.length=c)) (gJ (decide (b<a.length)) (AW c f (a.set b d))):=rfl
def GZ(c:Nat):∀(b:List (Nat×T)) (a:List T),pW c b a=AW c b a:=by
 intro b;induction b with
 |nil=>intro a;rfl
 |cons k b j=>
  intro a;obtain⟨d,f⟩:=k;show(gJ (Nat.beq (kY f.cells) c) (dV (kO a d f) λg=>pW c b g))=_;simp only[jW,CE,j,IY,kQ];by_cases i:d<a.length<;>simp[i]
@[simp]def Sj (f:ab) (b:Nat) (c:List (Nat×ah)):jr (.buildSlice f b c.toArray) cx mask e h=dV (cx.ty f) λd=>(match d.u with
 | .slice g=>dV (cx.ty g) λa=>dV (yn cx mask e c) λc=>gJ (decide (1<=a.size))<|gJ (decide (b*a.size<=65536)) (dV (AW a.size c (List.replicate b a.ku)) λi=>
  some (.val (.arr h.size 0 0 b false) (h.cons ⟨a.size,0,0,true,false,i⟩)))
 |_=>none):=by
 show(dV (cx.ty f) λd=>_)=_;congr 1;funext d;cases d.u<;>first|rfl|skip
 simp[HF,NF,Ul,H.ly,p9,GZ,Di]
@[simp]theorem adc (b:ab) (a:ah):jr (.load b a) cx mask e h=dV (cx.ty b) λc=>dV (fO cx mask e a) λa=>val h (h.load c a):=rfl
def ldB(a:iY)(c d f:Nat)(g:Ty):aa T:=gJ (decide (a.ep=c)) (if a.it=true then none else dV (a.fg[d]?) λe=>dV (j4 f e.cells) λb=>kw g b)
@[simp]def Xg (l b m:Nat) (k f:Bool) (c:List T) (a d g:Nat) (i:Ty):ldB ⟨l,b,m,k,f,c⟩ a d g i=gJ (decide (b=a)) (if f=true then none else dV (c[d]?) λe=>dV (j4 g e.cells) λj=>kw i j):=id rfl
@[simp]def Xf (j:Ty) (b c f i:Nat):h.load j (.ptr b c f i)=dV (h.get b) λa=>ldB a c f i j:=by
 show(dV (dV (h.get b) λa=>iY.casesOn a λ_ d _ _ g l=>gJ (Nat.beq d c) (Bool.casesOn g (mI l f) none)) λe=>dV (j4 i e.cells) λk=>kw j k)=_;cases h.get b with
 |none=>rfl
 |some a=>
  obtain⟨o,d,p,n,g,m⟩:=a;simp only[ed,Xg,CE,kP];cases decide (d=c)<;>cases g<;>simp
def HM(h:H)(c:Nat)(a:iY)(f b g:Nat)(i:List T):aa H:=gJ (decide (a.ep=f)) (if a.it=true then none else dV (a.fg[b]?) λe=>dV (mG e g i) λd=>some (dZ h c ⟨a.sz,a.ep,a.ver+1,a.exact,false,a.fg.set b d⟩))
@[simp]def Wd (d k a l:Nat) (g i:Bool) (b:List T) (f c j:Nat) (m:List T):HM h d ⟨k,a,l,g,i,b⟩ f c j m=gJ (decide (a=f)) (if i=true then none else dV (b[c]?) λe=>dV (mG e j m) λn=>some (dZ h d ⟨k,a,l+1,g,false,b.set c n⟩)):=id rfl
def zd{a:Nat}{m:iY}(f:h.get a=some m)(d:iY):h.put a d=some (dZ h a d):=by
 have:∃c,h.put a d=some c:=by
  obtain⟨b,g,i⟩:=h;rw[H.get_eq]at f;simp only at f;by_cases k:a<b
  ·rw[ar k]at f;have hl:b-1-a<i.length:=by
    grind
   show∃c,(gJ (Nat.blt a b) (dV (kO i (Nat.sub (Nat.sub b 1) a) d) λj=> @Bool.rec (λ_=>aa H) (some ⟨b,g,j⟩) (some ⟨b,a,j⟩) (Nat.blt a g)))=some c;rw[show Nat.blt a b=true by rw[aJ];exact k,iH,kQ,ar J,ed];cases Nat.blt a g<;>exact⟨_,rfl⟩
  grind
 obtain⟨c,l⟩:=this;unfold dZ;rw[l];rfl
@[simp]def ac2 (l:Ty) (a i b g:Nat) (c:T):h.store l (.ptr a i b g) c=gJ (decide (c.cells.length=l.size)) (dV (h.get a) λd=>HM h a d i b g c.cells):=by
 show(gJ (Nat.beq (kY c.cells) l.size) (dV (h.get a) λd=>iY.casesOn d λo j p exact k n=>
  gJ (Nat.beq j i) (@Bool.rec (λ_=>aa H) (dV (mI n b) λe=>dV (mG e g c.cells) λm=>dV (kO n b m) λf=>
   dV (ir (Nat.succ p)) λq=>h.put a ⟨o,j,q,exact,false,f⟩) none k)))=_
 simp only[jW,CE];cases t:h.get a with
 |none=>rfl
 |some d=>
  obtain⟨o,j,p,r,k,f⟩:=d;simp only[ed,Wd];congr 1;congr 1;cases k with
  |true=>rfl
  |false=>
   simp only[kP,cr,bw];cases s:f[b]? with
   |none=>rfl
   |some e=>
    simp only[ed];cases mG e g c.cells with
    |none=>rfl
    |some m=>
     have u:b<f.length:=by
      grind
     simp_all[zd,iO,kQ,ed]
@[simp]theorem abm (b:ab) (a d:ah):jr (.store b a d) cx mask e h=dV (cx.ty b) λg=>dV (fO cx mask e a) λa=>dV (fO cx mask e d) λc=>gJ c.iy (dV (h.store g a c) λf=>some (.val .undef f)):=rfl
def ncW(h:H)(a:T):aa lP:=match a with| .ptr .. | .jD _| .func .. =>some (.val a h)|_=>none
@[simp]theorem ade (a b c d:Nat):ncW h (.ptr a b c d)=some (.val (.ptr a b c d) h):=rfl
@[simp]theorem Vu (a:ah):jr (.nilCheck a) cx mask e h=dV (fO cx mask e a) λb=>ncW h b:=rfl
@[simp]def YV (d f:ah) (b:ak) (c:Int) (a:T):Bn d f (.int b c) a=true:=id rfl
@[simp]def YU (c d:ah) (b:List Nat) (a:T):Bn c d (.str b) a=true:=id rfl
@[simp]def W8 (c d:ah) (b:Bool) (a:T):Bn c d (.bool b) a=true:=id rfl
@[simp]def aeV (g j:ab) (c d:ah):jr (.binOp .eql g c d j) cx mask e h=dV (cx.ty g) λi=>dV (fO cx mask e c) λa=>dV (fO cx mask e d) λb=>gJ (Bn c d a b) (dV (Oo cx i a b) λf=>some (.val (.bool f) h)):=by
 show(dV (cx.ty g) λi=>dV (fO cx mask e c) λa=>dV (fO cx mask e d) λb=>gJ (Bn c d a b) (dV (Oo cx i a b) λf=>val h (xL f)))=_;simp
@[simp]def aeM (g j:ab) (c d:ah):jr (.binOp .neq g c d j) cx mask e h=dV (cx.ty g) λi=>dV (fO cx mask e c) λa=>dV (fO cx mask e d) λb=>gJ (Bn c d a b) (dV (Oo cx i a b) λf=>some (.val (.bool !f) h)):=by
 show(dV (cx.ty g) λi=>dV (fO cx mask e c) λa=>dV (fO cx mask e d) λb=>gJ (Bn c d a b) (dV (Oo cx i a b) λf=>val h (xL (!f))))=_;simp
@[simp]def adB (d:Ty) (a:ak) (b c:Int) (f:d.u= .int a):Oo cx d (.int a b) (.int a c)=some (decide (b=c)):=by unfold Oo;rw[f];simp
@[simp]def adA (c:Ty) (a b:List Nat) (d:c.u= .str):Oo cx c (.str a) (.str b)=some (decide (a=b)):=by unfold Oo;rw[d];simp
@[simp]def aci (c:Ty) (a b:Bool) (d:c.u= .bool):Oo cx c (.bool a) (.bool b)=some (a==b):=by unfold Oo;rw[d];simp
def xR(c:BinOp)(d f:aa T)(h:H):aa lP:=dV d λa=>dV f λb=>val h (binop c a b)
@[simp]theorem abY (c:BinOp) (a b:T):xR c (some a) (some b) h=val h (binop c a b):=rfl
@[simp]theorem aeX (c d:ab) (a b:ah):jr (.binOp .add c a b d) cx mask e h=xR .add (fO cx mask e a) (fO cx mask e b) h:=rfl
@[simp]theorem aeJ (c d:ab) (a b:ah):jr (.binOp .sub c a b d) cx mask e h=xR .sub (fO cx mask e a) (fO cx mask e b) h:=rfl
@[simp]theorem aeN (c d:ab) (a b:ah):jr (.binOp .mul c a b d) cx mask e h=xR .mul (fO cx mask e a) (fO cx mask e b) h:=rfl
@[simp]theorem aeL (c d:ab) (a b:ah):jr (.binOp .quo c a b d) cx mask e h=xR .quo (fO cx mask e a) (fO cx mask e b) h:=rfl
@[simp]theorem aeK (c d:ab) (a b:ah):jr (.binOp .rem c a b d) cx mask e h=xR .rem (fO cx mask e a) (fO cx mask e b) h:=rfl
@[simp]theorem aeQ (c d:ab) (a b:ah):jr (.binOp .lss c a b d) cx mask e h=xR .lss (fO cx mask e a) (fO cx mask e b) h:=rfl
@[simp]theorem aeR (c d:ab) (a b:ah):jr (.binOp .leq c a b d) cx mask e h=xR .leq (fO cx mask e a) (fO cx mask e b) h:=rfl
@[simp]theorem aeT (c d:ab) (a b:ah):jr (.binOp .gtr c a b d) cx mask e h=xR .gtr (fO cx mask e a) (fO cx mask e b) h:=rfl
@[simp]theorem aeU (c d:ab) (a b:ah):jr (.binOp .geq c a b d) cx mask e h=xR .geq (fO cx mask e a) (fO cx mask e b) h:=rfl
@[simp]theorem af1 (a:UnOp) (d:ab) (b:ah):jr (.unOp a d b) cx mask e h=dV (fO cx mask e b) λc=>val h (unop a c):=rfl
@[simp]theorem Tr (c:ab) (a:ah) (b:Nat):jr (.fieldAddr c a b) cx mask e h=dV (xx cx c b) λd=>dV (fO cx mask e a) λa=>faV d.1 h a:=rfl
@[simp]def XC (c:ab) (a:Nat):xx cx c a=dV (cx.ty c) λd=>(match d.u with| .struct b=>b[a]? |_=>none):=by
 show(dV (cx.ty c) λd=>match d.u with| .struct b=>mI b a|_=>none)=_;simp
def fdW(h:H)(off:Nat)(c:Ty)(d:T):aa lP:=match d with| .agg a=>dV (j4 off a) λb=>val h (kw c b)|_=>none
@[simp]theorem ady (off:Nat) (b:Ty) (a:List T):fdW h off b (.agg a)=dV (j4 off a) λc=>val h (kw b c):=rfl
@[simp]theorem abp (d:ab) (a:ah) (b:Nat):jr (.field d a b) cx mask e h=dV (xx cx d b) λc=>dV (cx.ty c.2) λf=>dV (fO cx mask e a) λa=>fdW h c.1 f a:=rfl
def ixW(cx:Ctx)(h:H)(g:Ty)(d:T)(c:Nat):aa lP:=match g.u with
 | .slice a=>dV (cx.ty a) λb=>kK h b d c
 | .array f a=>dV (cx.ty a) λb=>pf h f b d c
 |_=>none
@[simp]theorem afd (f:Ty) (d:T) (b:Nat):ixW cx h f d b=(match f.u with
 | .slice a=>dV (cx.ty a) λc=>kK h c d b
 | .array g a=>dV (cx.ty a) λc=>pf h g c d b
 |_=>none):=rfl
@[simp]theorem Tq (c:ab) (b a:ah):jr (.indexAddr c b a) cx mask e h=dV (cx.ty c) λf=>dV (fO cx mask e b) λb=>dV (fO cx mask e a) λa=>dV (qn a) λd=>ixW cx h f b d:=rfl
@[simp]def Y8 (d:Ty) (b:List T) (f:Bool) (c:Nat):kK h d (.dK b f) c=dV (b[c]?) λa=>gJ (decide (a.cells.length=d.size)) (some (.val (.jD a.cells) h)):=by
 show(dV (mI b c) λa=>gJ (Nat.beq (kY a.cells) d.size) (some (lP.val (.jD a.cells) h)))=_;simp
@[simp]def QX (i:Ty) (a c g f:Nat) (j:Bool) (d:Nat):kK h i (.arr a c g f j) d=gJ (decide (d<f)) (dV (h.get a) λb=>gJ (decide (b.sz=i.size))<|gJ (decide (b.ep=c)) (some (.val (.ptr a c (g+d) 0) h))):=by
 show(gJ (Nat.blt d f) (dV (h.get a) λb=>gJ (Nat.beq b.sz i.size)<|gJ (Nat.beq b.ep c) (dV (ir (Nat.add g d)) λk=>some (lP.val (.ptr a c k 0) h))))=_;simp
def icW(cx:Ctx)(h:H)(l:Ty)(c:T)(a:Nat):aa lP:=match l.u with
 | .str=>(match c with| .str k=>dV (k[a]?) λd=>some (.val (.int .u8 d) h)|_=>none)
 | .array i g=>(match c with
  | .agg f=>dV (cx.ty g) λb=>gJ (decide (a<i)) (dV (j4 (a*b.size) f) λj=>val h (kw b j))
  |_=>none)
 |_=>none
@[simp]theorem afe (d:Ty) (b:T) (a:Nat):icW cx h d b a=(match d.u with
 | .str=>(match b with| .str l=>dV (l[a]?) λf=>some (.val (.int .u8 f) h)|_=>none)
 | .array j i=>(match b with
  | .agg g=>dV (cx.ty i) λc=>gJ (decide (a<j)) (dV (j4 (a*c.size) g) λk=>val h (kw c k))
  |_=>none)
 |_=>none):=rfl
@[simp]theorem abo (d:ab) (a b:ah):jr (.index d a b) cx mask e h=dV (cx.ty d) λf=>dV (fO cx mask e a) λa=>dV (fO cx mask e b) λb=>dV (qn b) λc=>icW cx h f a c:=by
 show(dV (cx.ty d) λf=>dV (fO cx mask e a) λa=>dV (fO cx mask e b) λb=>dV (qn b) λc=>match f.u with
  | .str=>(match a with| .str n=>dV (mI n c) λi=>val h (some (.int .u8 (.ofNat i)))|_=>none)
  | .array l k=>(match a with
   | .agg j=>dV (cx.ty k) λg=>gJ (Nat.blt c l) (dV (j4 (Nat.mul c g.size) j) λm=>val h (kw g m))
   |_=>none)
  |_=>none)=_
 simp only[kP,Uk,yM];rfl
@[simp]theorem WY (b:ah) (a:Nat):jr (.extract b a) cx mask e h=dV (fO cx mask e b) λc=>exV h c a:=rfl
@[simp]def abr (b:aj) (a:List ah) (f:af ab):jr (.call ⟨.value (.func b),a.toArray,f⟩) cx mask e h=dV (fQ (fO cx mask e) a) λc=>some (.call b c):=by
 show(dV (qz cx mask e a) λa=>dV (some (T.func b [])) λg=>match g with
  | .func b d=>dV (Fb a d) λc=>some (lP.call b c)
  |_=>none)=_
 simp
def aco(c:List T)(d:T):aa lP:=match d with| .func b a=>some (.call b (c++a))|_=>none
@[simp]theorem Zh (c:List T) (b:aj) (a:List T):aco c (.func b a)=some (.call b (c++a)):=rfl
@[simp]theorem abq (c:Tmp) (a:List ah) (i:af ab):jr (.call ⟨.value (.tmp c),a.toArray,i⟩) cx mask e h=dV (fQ (fO cx mask e) a) λb=>dV (fO cx mask e (.tmp c)) λd=>aco b d:=by
 show(dV (qz cx mask e a) λa=>dV (fO cx mask e (.tmp c)) λd=>match d with
  | .func g f=>dV (Fb a f) λb=>some (lP.call g b)
  |_=>none)=_
 simp only[H9,rL,ed];rfl
@[simp]theorem aeS (a:List ah) (b:ab):jr (.call ⟨.builtin .len,a.toArray,#[b]⟩) cx mask e h=dV (fQ (fO cx mask e) a) λc=>(match c with| [d]=>N8 cx h [b] d|_=>none):=rfl
def EY(cx:Ctx)(h:H)(g:Ty)(a:T):aa lP:=match g.u with
 | .str=>(match a with| .str f=>some (.val (.int .i64 f.length) h)|_=>none)
 | .slice _=>(match a with
  | .dK b _=>some (.val (.int .i64 b.length) h)
  | .gX=>some (.val (.int .i64 0) h)
  | .arr _ _ _ c _=>some (.val (.int .i64 c) h)
  |_=>none)
 | .array d _=>some (.val (.int .i64 d) h)
 |_=>none
def Cr(b:Ty)(a:T):EY cx h b a=(match b.u with
 | .str=>(match a with| .str g=>some (.val (.int .i64 g.length) h)|_=>none)
 | .slice _=>(match a with
  | .dK c _=>some (.val (.int .i64 c.length) h)
  | .gX=>some (.val (.int .i64 0) h)
  | .arr _ _ _ d _=>some (.val (.int .i64 d) h)
  |_=>none)
 | .array f _=>some (.val (.int .i64 f) h)
 |_=>none):=rfl
@[simp]def abD (b:Ty) (a:List Nat) (c:b.u= .str):EY cx h b (.str a)=some (.val (.int .i64 a.length) h):=by rw[Cr,c]
@[simp]def Y2 (b:Ty) (a:List T) (c:Bool) (f:ab) (d:b.u= .slice f):EY cx h b (.dK a c)=some (.val (.int .i64 a.length) h):=by rw[Cr,d]
@[simp]def Y1 (a:Ty) (c:ab) (b:a.u= .slice c):EY cx h a .gX=some (.val (.int .i64 0) h):=by rw[Cr,b]
@[simp]def abE (b:Ty) (c d i a:Nat) (f:Bool) (j:ab) (g:b.u= .slice j):EY cx h b (.arr c d i a f)=some (.val (.int .i64 a) h):=by rw[Cr,g]
@[simp]def adS (a:ab) (c:T):N8 cx h [a] c=dV (cx.ty a) λb=>EY cx h b c:=by
 show(dV (mI [a] 0) λa=>dV (cx.ty a) λb=>_)=_;simp only[kP,List.getElem?_cons_zero,ed];congr 1;funext b;unfold EY;cases b.u<;>first|rfl|(cases c<;>first|rfl|(simp;try rfl))
@[simp]theorem aeO (a:List ah) (b:af ab):jr (.call ⟨.builtin .min,a.toArray,b⟩) cx mask e h=dV (fQ (fO cx mask e) a) λc=>lA .min cx h b.toList c:=rfl
@[simp]theorem aeP (a:List ah) (b:af ab):jr (.call ⟨.builtin .max,a.toArray,b⟩) cx mask e h=dV (fQ (fO cx mask e) a) λc=>lA .max cx h b.toList c:=rfl
@[simp]def aeZ (f:List ab) (a:ak) (b c:Int):lA .min cx h f [.int a b,.int a c]=some (.val (.int a (min b c)) h):=by
 show val h (gJ (EK a a) (yi a (@Bool.rec (λ_=>Int) b c (LM c b))))=_;rw[sr,iH,oY,xr];simp only[yM,au,lP.val.injEq,T.int.injEq,true_and,and_true];by_cases d:c<b
 ·rw[aV d];grind
 ·rw[aM d];grind
@[simp]def ae0 (f:List ab) (a:ak) (b c:Int):lA .max cx h f [.int a b,.int a c]=some (.val (.int a (max b c)) h):=by
 show val h (gJ (EK a a) (yi a (@Bool.rec (λ_=>Int) b c (LM b c))))=_;rw[sr,iH,oY,xr];simp only[yM,au,lP.val.injEq,T.int.injEq,true_and,and_true];by_cases d:b<c
 ·rw[aV d];grind
 ·rw[aM d];grind
end
end
section
abbrev hE:H:=⟨0,0,[]⟩
structure EI(P:ai)(cx:Ctx)(f:aj)(fn:Func)(mask:Nat)(dl:DL):Prop where
 at_:P.funcs[f]? =some fn
 ok:xQ ⟨fn,mask,false,none⟩=true
 dr:mX dl (fn.body.getD .skip)=true
def mV(a:fW):Nat->List T->Prop
 |_,[]=>True
 |i,b::c=>dM a i=some b/\mV a (i+1) c
@[simp]theorem YA (b:fW) (a:Nat):mV b a []=True:=rfl
@[simp]theorem VW (b:fW) (a:Nat) (c:T) (d:List T):mV b a (c::d)=(dM b a=some c/\mV b (a+1) d):=rfl
def mO(mask:Nat):∀(d a:Nat) (f:List T),f.length<=d->∃b,mK mask d a f=some b/\(∀c,c<a->dM b c=none)/\mV b a f:=by
 intro d;induction d with
 |zero=>
  intro a f hl;have:f=[]:=bg J;subst this;exact⟨.nil,rfl,λ_ _=>rfl,trivial⟩
 |succ d q=>
  intro a f hl;have s:∀(e:List T) (b:fW) (c:Nat) (l:T) (g:Nat),c<g->mV b g e->mV (.cons c l b) g e:=by
   intro e;induction e with
   |nil=>simp
   |cons k e r=>
    intro b c l g t o;exact⟨by rw[mz,aq J];exact o.1,r b c l (g+1) J o.2⟩
  cases f with
  |nil=>
   have⟨b,i,m,n⟩:=q (a+1) [] dy;show∃b,(dV (ir (Nat.succ a)) λj=> @Bool.rec (λ_=>aa fW) (mK mask d j []) (dV (mK mask d j []) λh=>some (.cons a .undef h)) (ks mask a))=some b/\_;rw[iO,ed];cases ks mask a with
   |false=>exact⟨b,i,λc p=>m c J,trivial⟩
   |true=>
    refine⟨.cons a .undef b,?_,λc p=>?_,trivial⟩
    ·show(dV (mK mask d (a+1) []) λh=>some (fW.cons a .undef h))=_;rw[i];rfl
    ·rw[mz,aq J];grind
  |cons k e=>
   have⟨b,i,m,n⟩:=q (a+1) e (by grind);refine⟨.cons a k b,?_,λc p=>?_,?_,s _ _ _ _ _ J n⟩
   ·show(dV (ir (Nat.succ a)) λj=>dV (mK mask d j e) λh=>some (fW.cons a k h))=_;rw[iO,ed,i];rfl
   ·rw[mz,aq J];grind
   simp
def A4(cx:Ctx)(mask:Nat)(d:List ResultVar)(e:fW)(b:H)(c:List T->Prop):Prop:=∃a,ng cx mask ⟨e,.nil⟩ b d=some a/\c a
section
variable {P:ai}{cx:Ctx}{cf:jd}{mask:Nat}
@[simp]def acG (e:fW) (c:H) (b:List T->Prop):A4 cx mask [] e c b=b []:=by
 apply propext;constructor
 ·rintro⟨d,hl,a⟩;have hl:some []=some d:=hl
  grind
 ·exact λa=>⟨[],rfl,a⟩
def WV(c:aa T)(b:T->Prop):Prop:=∃a,c=some a/\b a
@[simp]def ad0 (b:T) (d:T->Prop):WV (some b) d=d b:=by
 apply propext;constructor
 ·rintro⟨e,c,a⟩;simp only[au]at c;subst c;exact a
 ·exact λa=>⟨b,rfl,a⟩
def F7(e:ResultVar)(f:List ResultVar)(a:fW)(b:H)(d:List T->Prop):A4 cx mask (e::f) a b d=
 WV (ResultVar.casesOn e (λc=>Env.get mask ⟨a,.nil⟩ c) (λg c=>dV (Env.get mask ⟨a,.nil⟩ g) λi=>dV (cx.ty c) λj=>b.load j i)) λk=>A4 cx mask f a b λh=>d (k::h):=by
 grind [ng,WV,A4,jK,au,dI,ed]
@[simp]def acF (e:Tmp) (d:List ResultVar) (a:fW) (b:H) (c:List T->Prop):A4 cx mask (.tmp e::d) a b c=WV (Env.get mask ⟨a,.nil⟩ e) λg=>A4 cx mask d a b λf=>c (g::f):=F7 _ d a b c
@[simp]def Zw (e:Tmp) (f:ab) (d:List ResultVar) (b:fW) (a:H) (c:List T->Prop):A4 cx mask (.cell e f::d) b a c=WV (dV (Env.get mask ⟨b,.nil⟩ e) λh=>dV (cx.ty f) λi=>a.load i h) λj=>A4 cx mask d b a λg=>c (j::g):=F7 _ d b a c
def zu(cx:Ctx)(mask:Nat)(e:List ResultVar)(d:List T->H->Prop):iS:=
 ⟨λb a=>A4 cx mask e b.vars a λc=>d c a,λ_ _ _=>False,λb a=>A4 cx mask e b.vars a λc=>d c a⟩
@[simp]theorem afc (d:List ResultVar) (c:List T->H->Prop) (b:Env) (a:H):(zu cx mask d c).n b a=A4 cx mask d b.vars a λe=>c e a:=rfl
@[simp]theorem afb (d:List ResultVar) (c:List T->H->Prop) (b:Env) (a:H):(zu cx mask d c).r b a=A4 cx mask d b.vars a λe=>c e a:=rfl
@[simp]theorem afa (e:List ResultVar) (d:List T->H->Prop) (c:Nat) (a:Env) (b:H):(zu cx mask e d).x c a b=False:=rfl
def ED{g:Out}{h:List ResultVar}{f:List T->H->Prop}(i:W g (zu cx mask h f)):∃c b a,g=some (c,b,a)/\(c= .normal\/c= .ret)/\A4 cx mask h b.vars a λj=>f j a:=by
 obtain⟨c,b,a,d,e⟩:=i;cases c with
 |normal=>exact⟨_,b,a,d,.inl rfl,e⟩
 |exit k=>simp_all
 |ret=>exact⟨_,b,a,d,.inr rfl,e⟩
def oU{i:List ResultVar}{a:Env}{f:H}{j:List T}(hl:ng cx mask ⟨a.vars,.nil⟩ f i=some j):ng cx mask a f i=some j:=by
 unfold ng at*
 induction i generalizing j with
 |nil=>exact hl
 |cons l i r=>
  rw[jK]at hl|-;have⟨d,g,hl⟩:=dI.1 hl;have⟨s,p,hl⟩:=dI.1 hl;simp only[au]at hl;subst hl;have m:∀k d,Env.get mask ⟨a.vars,.nil⟩ k=some d->Env.get mask a k=some d:=by
   intro k d o;obtain⟨u,t⟩:=a;rw[Ct]at o|-;simp_all[FP]
  have q:(@ResultVar.rec (λ_=>aa T) (λc=>Env.get mask a c) (λe c=>dV (Env.get mask a e) λb=>dV (cx.ty c) λh=>f.load h b) l)=some d:=by
   cases l with
   |tmp c=>grind
   |cell e c=>
    have g:(dV (Env.get mask ⟨a.vars,.nil⟩ e) λb=>dV (cx.ty c) λh=>f.load h b)=some d:=g;have⟨b,n,g⟩:=dI.1 g;show(dV (Env.get mask a e) λb=>dV (cx.ty c) λh=>f.load h b)=some d;rw[m e b n];exact g
  grind
end
def R0{l:Env->H->Out}(e:Nat)(g:Nat->fW->H->Prop){k:iS}
 (p:∀a d b,a<=e->g a d b->W (l ⟨d,.nil⟩ b) (yr (λc b=>c.tmps= .nil/\a<e/\g (a+1) c.vars b) k)) {j:Nat} (r:e<j) {a:Nat} (i:a<=e) {d:fW} {b:H} (h:g a d b):W (oL l j ⟨d,.nil⟩ b) k:=by
 refine RY (σ:=Nat) (I:=λa c b=>a<=e/\c.tmps= .nil/\g a c.vars b) (m:=λa=>e-a) ?_ j a _ _ J ⟨i,rfl,h⟩;rintro a ⟨d,t⟩ b ⟨i,ht,h⟩;simp only at ht h;subst ht;have⟨n,c,o,q,f⟩:=p a d b i h;refine⟨n,c,o,q,?_⟩;cases n with
 |normal=>exact⟨a+1,by have:=f.2.1;omega,by have:=f.2.1;omega,f.1,f.2.2⟩
 |exit s=>exact f
 |ret=>exact f
@[simp]def agk:Hp hE=True:=by simp[Hp]
@[simp]def acN (b:H) (c:iY):Hp (b.cons c)=Hp b:=by
 apply propext;constructor
 ·intro a;unfold Hp at*;simp[H.cons]at a;exact a
 ·exact λa=>UD a c
end
section
mutual
def cn:T->T
 | .dK b c=>(match b with| []=> .gX|e::b=> .dK (XX (e::b)) false)
 | .agg a=> .agg (XX a)
 | .tuple a=> .tuple (XX a)
 |v=>v
def XX:List T->List T
 | []=>[]
 |x::a=>cn x::XX a
end
def Hh:∀a:List T,XX a=a.map cn
 | []=>by rw[XX];rfl
 |x::b=>by rw[XX,Hh b];rfl
def nL(a:List T)(b:Bool):cn (.dK a b)=sl (a.map cn):=by
 cases a with
 |nil=>rw[cn];rfl
 |cons c a=>rw[cn,Hh];rfl
def jN(a:List T):cn (.agg a)= .agg (a.map cn):=by rw[cn,Hh]
def uI(a:List T):cn (.tuple a)= .tuple (a.map cn):=by rw[cn,Hh]
@[simp]def Rj:cn .undef= .undef:=by simp[cn]
@[simp]def Mg (a:Bool):cn (.bool a)=(.bool a):=by simp[cn]
@[simp]def Hg (a:ak) (b:Int):cn (.int a b)=(.int a b):=by simp[cn]
@[simp]def Hf (a:List Nat):cn (.str a)=(.str a):=by simp[cn]
@[simp]def Md:cn .kH= .kH:=by simp[cn]
@[simp]def XU (a b c d:Nat):cn (.ptr a b c d)=(.ptr a b c d):=by simp[cn]
@[simp]def Mb (a:List T):cn (.jD a)=(.jD a):=by simp[cn]
@[simp]def I4:cn .gX= .gX:=by simp[cn]
@[simp]def XW (a b e d:Nat) (c:Bool):cn (.arr a b e d c)=(.arr a b e d c):=by simp[cn]
@[simp]def T6 (b:aj) (a:List T):cn (.func b a)=(.func b a):=by simp[cn]
@[simp]def Mf:cn .kS= .kS:=by simp[cn]
@[simp]def Me:cn .kR= .kR:=by simp[cn]
@[simp]def Rl (a:ab) (b:T):cn (.iface a b)=(.iface a b):=by simp[cn]
@[simp]def T5 (a:Nat):cn (.iter a)=(.iter a):=by simp[cn]
@[simp]def XV (a:Nat):cn (.map a)=(.map a):=by simp[cn]
@[simp]def T4:cn .nZ= .nZ:=by simp[cn]
def F0(a:T):(cn a).scalar=a.scalar:=by
 cases a with
 |dK c d=>rw[nL];cases c<;>rfl
 |agg b=>rw[jN];rfl
 |tuple b=>rw[uI];rfl
 |_=>simp
theorem I5(a:T):(cn a).cells=a.cells.map cn:=by
 cases a with
 |dK c d=>rw[nL];cases c<;>(show [_]=[_];rw[nL])
 |agg b=>rw[jN];rfl
 |tuple b=>rw[uI];show [_]=[_];rw[uI]
 |_=>simp[T.cells]
def T7(a:List T):fF (a.map cn)=(fF a).map cn:=by
 induction a with
 |nil=>rfl
 |cons b a c=>
  grind [fF,I5]
def kC.cn{a:T}(b:kC a):kC (cn a):=by
 induction b with
 |dK d l _ g=>
  rw[nL];cases d with
  |nil=>exact .gX
  |cons k d=>
   exact .dK _ _ (λa f=>by
    grind)
 |agg c _ g=>
  rw[jN];exact .agg _ (λa f=>by
   grind)
 |jD c b=>rw[Mb];exact .jD c b
 |bool e=>rw[Mg];exact .bool e
 |int h i=>rw[Hg];exact .int h i
 |str j=>rw[Hf];exact .str j
 |kH=>rw[Md];exact .kH
 |gX=>rw[I4];exact .gX
 |kS=>rw[Mf];exact .kS
 |kR=>rw[Me];exact .kR
def fI.cn{hp:af Obj}{μ:Mu}{b:T}{o:ao}(a:fI hp μ b o):fI hp μ (cn b) o:=by
 induction a with
 |nV u c=>rw[nL];exact .gX c 0
 |dK i j u r off s N arr n fz x w hl O Q h l hr m=>
  rw[nL];show fI hp μ (.dK (Go.TI.cn i::j.map Go.TI.cn) false) _;have B:fF (Go.TI.cn i::j.map Go.TI.cn)=(fF (i::j)).map Go.TI.cn:=T7 (i::j);have:=fI.dK (hp:=hp) (μ:=μ) (Go.TI.cn i) (j.map Go.TI.cn) false r off s N arr n fz x w (by grind) dy (λb e=>?_) ?_ ?_ ?_
  ·grind
  ·have e:b∈(i::j).map Go.TI.cn:=e;obtain⟨q,p,rfl⟩:=List.mem_map.1 e;rw[I5,aH];grind
  ·rw[B,aH];exact h
  ·intro b e;rw[B]at e;obtain⟨q,p,rfl⟩:=List.mem_map.1 e;exact⟨by rw[F0];exact(l q p).1,(l q p).2.cn⟩
  grind
 |agg A k h l hr m=>
  rw[jN];refine .agg _ k (by grind) (λb e=>?_) λz b C=>?_
  ·obtain⟨q,p,rfl⟩:=List.mem_map.1 e;rw[F0];grind
  grind
 |tuple R k h hr m=>
  rw[uI];refine .tuple _ k (by grind) λz b C=>?_;rw[aS]at C
  grind
 |jD A r off arr n fz x w h l hr m=>rw[Mb];exact .jD A r off arr n fz x w h l hr
 |undef=>rw[Rj];exact .undef
 |bool d=>rw[Mg];exact .bool d
 |int z K=>rw[Hg];exact .int z K
 |str M a=>rw[Hf];exact .str M a
 |kH=>rw[Md];exact .kH
 |ptr d t y H f c g v G=>rw[XU];exact .ptr d t y H f c g v G
 |gX c s=>rw[I4];exact .gX c s
 |arr d t L I u f c E g v hl a=>rw[XW];exact .arr d t L I u f c E g v hl a
 |func F D k h hr m=>rw[T6];exact .func F D k h hr
 |kS=>rw[Mf];exact .kS
 |kR=>rw[Me];exact .kR
 |iface n b o a m=>rw[Rl];exact .iface n b o a
 |iter d f c g a=>rw[T5];exact .iter d f c g a
 |map d f y g a=>rw[XV];exact .map d f y g a
 |nZ=>rw[T4];exact .nZ
def gU.cn{f:af Obj}{h:Mu}{c:List T}{d:List ao}(e:gU f h c d):gU f h (c.map Go.TI.cn) d:=by
 refine⟨by simpa using e.1,λg j a=>?_⟩;rw[aS]at a;cases b:c[g]? with
 |none=>rw[b]at a;grind
 |some i=>rw[b]at a;simp at a;subst a;exact(e.2 g i b).cn
mutual
def mw:T->Bool
 | .bool _| .int _ _| .str _| .kH| .kS| .kR| .nZ| .gX=>true
 | .agg a=>oZ a
 | .tuple a=>oZ a
 |_=>false
def oZ:List T->Bool
 | []=>true
 |x::a=>mw x&&oZ a
end
def Bi{a:List T}(c:oZ a=true):∀b∈a,mw b=true:=by
 induction a with
 |nil=>simp
 |cons f a e=>
  intro b d;rw[oZ,aB]at c
  grind
def fI.plain{n o:af Obj}{r s:Mu}{a:T}{i:ao}(f:fI n r a i)(c:mw a=true):fI o s a i:=by
 induction f with
 |bool k=>exact .bool k
 |int d p=>exact .int d p
 |str q f=>exact .str q f
 |kH=>exact .kH
 |kS=>exact .kS
 |kR=>exact .kR
 |nZ=>exact .nZ
 |gX j l=>exact .gX j l
 |agg t e g m hr h=>
  rw[mw]at c;exact .agg _ e g m λd a b=>h d a b (Bi c a (ay b))
 |tuple u e g hr h=>
  rw[mw]at c;exact .tuple _ e g λd a b=>h d a b (Bi c a (ay b))
 |_=>simp[mw]at c
section
variable {P:ai}{cx:Ctx}
def Of{b:Mu}{a:Nat}:nN (mM 0 b) a↔b.py a:=by
 constructor
 ·rintro(⟨e,d,c,_⟩|hr)
  ·exact absurd (kl c).1 J
  ·exact hr
 ·exact λhr=> .inr hr
def M4{z:aj}{o k:List T}{w:T}{s:H}(F:lh P cx z (k.map cn) w)(u:fQ (ky s 0) o=some k)(hr:mw w=true):p8 P cx ⟨z,o,s,w,s⟩:=by
 intro X d f x b B;have E:gU d.heap (mM 0 f) k x.toList:=by
  have A:iM (λj U=>∀p,fI d.heap f j p->fI d.heap (mM 0 f) U p) o k:=iM.map (λn m y O p G=>qW b G O) u;refine⟨by rw[<-A.length];exact B.1,λQ j K=>?_⟩;have⟨n,m,u⟩:=A.get K;exact u _ (B.2 Q n m)
 have S:St cx d.heap.size d.heap (mM 0 f) hE:=by
  refine⟨rfl,aw _,λh e c=>absurd (kl c).1 J,λh W e V c=>absurd (kl c).1 J,λh e c=>absurd (kl c).1 J,λh e c=>absurd (kl c).1 J,λa hr=>b.rm a hr,λr q v=>?_⟩;have:=b.zI r q v;refine this.cut ?_;have⟨_,_,_,_,_,_,_,_,_,M,_⟩:=this.mf;exact .jD _ λj N=>(M j N).2.low 0
 refine(F d.heap.size d (mM 0 f) x hE S E.cn).mono λj D ⟨⟨an,R,Y,g,ae⟩,al⟩=>?_;have C:∀a,a<d.heap.size->¬f.py a->D.heap[a]? =d.heap[a]? :=λa i l=>(g.ext.nU a i λI=>l (Of.1 I)).1;have t:Ext d.heap f D.heap f:=by
  refine⟨g.ext.size,λa i l=>⟨C a i λhr=>l (.inr hr),l⟩,λh e c=>⟨e,c,.inl rfl⟩,rfl,λa i hr=>g.ext.kept a i hr⟩
 refine⟨⟨f,R.plain hr,⟨b.wf,aT b.fit g.ext.size,λh e c=>?_,b.inj,b.low,b.apart,λa hr=>bD (b.rm a hr) g.ext.size,λr q v=>(b.zI r q v).ext t⟩,⟨t,g.os,g.tape,g.output⟩,yJ.refl _ _⟩,lr.refl b.wf⟩;have⟨n,m,L⟩:=b.box h e c;exact⟨n,m,L.ext t (C e.jc (b.lt c) (b.apart h e c))⟩
def M3{c:aj}{b:List T}{d:T}{a:H}(h:lh P cx c (b.map cn) d):p8 P cx ⟨c,b,a,d,a⟩:=
 λe j k f i g=>h e j k f a i g.cn
structure gG where
 α:Type
 A:α->List T
 pre:α->Prop
 R:α->T
 inj:∀a b,A a=A b->R a=R b
structure li where
 pre:List T->H->Prop
 post:List T->H->T->H->Prop
structure fJ where
 p:aj->aa gG
 h:aj->aa li
open Classical in
def rl(P:ai)(cx:Ctx)(f:fJ)(d:aj)(c:List T):aa T:=match f.p d with
 |none=>none
 |some a=>if e:∃b,a.pre b/\a.A b=c/\lh P cx d c (a.R b)then some (a.R e.choose)else none
open Classical in
def hl(P:ai)(cx:Ctx)(g:fJ)(c:aj)(b:List T)(d:H):aa (T×H):=match g.h c with
 |none=>none
 |some e=>if f:∃a:T×H,e.post b d a.1 a.2/\p8 P cx ⟨c,b,d,a.1,a.2⟩then some f.choose else none
def xS(h:H)(d:Nat)(v:T):aa T:=dV (freeze h 0 d v) λv=>some (cn v)
def fz(b:H)(a:T):aa T:=dV (iP b 0 a) λa=>some (cn a)
def rS(b:H)(a:T):aa T:=dV (ky b 0 a) λa=>some (cn a)
def RO(b:H)(a:List T):aa (List T):=fQ (rS b) a
mutual
def j2:T->Bool
 | .bool _| .int _ _| .str _| .kH| .dK _ _| .gX| .kS| .kR=>true
 | .agg a=>oS a
 |_=>false
def oS:List T->Bool
 | []=>true
 |x::a=>j2 x&&oS a
end
def qZ(P:ai)(cx:Ctx)(d:fJ):jd:=λc a b=>match RO b a with
 |none=>hl P cx d c a b
 |some f=>match rl P cx d c f with
  |none=>hl P cx d c a b
  |some e=>if(mw e||oS a)=true then some (e,b)else hl P cx d c a b
def so{f g j:Type}(b:f->aa g)(d:g->j):∀a:List f,fQ (λc=>dV (b c) λe=>some (d e)) a=dV (fQ b a) λi=>some (i.map d):=by
 intro a;induction a with
 |nil=>rfl
 |cons c a h=>
  rw[jK,jK,h];cases b c with
  |none=>rfl
  |some e=>simp only[ed];cases fQ b a<;>rfl
def Ji{c:H}{a b:List T}(d:RO c a=some b):∃e,fQ (ky c 0) a=some e/\b=e.map cn:=by
 unfold RO rS at d;rw[so]at d
 grind [dI,hl,au]
mutual
def tJ(e:H)(g d:Nat):(b:T)->j2 b=true->(∀c,b≠ .agg c)->freeze e g (d+1) b=some b
 | .bool _,_,_=>rfl
 | .int _ _,_,_=>rfl
 | .str _,_,_=>rfl
 | .kH,_,_=>rfl
 | .dK _ _,_,_=>rfl
 | .gX,_,_=>rfl
 | .kS,_,_=>rfl
 | .kR,_,_=>rfl
 | .agg c,_,f=>absurd rfl (f c)
 | .undef,a,_=>by grind [j2]
 | .ptr ..,a,_=>by grind [j2]
 | .jD _,a,_=>by grind [j2]
 | .arr ..,a,_=>by grind [j2]
 | .func ..,a,_=>by grind [j2]
 | .iface ..,a,_=>by grind [j2]
 | .iter _,a,_=>by grind [j2]
 | .map _,a,_=>by grind [j2]
 | .nZ,a,_=>by grind [j2]
 | .tuple _,a,_=>by grind [j2]
end
def qX(b:H){a:T}(e:j2 a=true)(d:∀c,a≠ .agg c):iP b 0 a=some a:=by
 have:=tJ b 0 11 a e d;cases a<;>first|exact this|rfl
def CT{a:List T}(c:oS a=true):∀b∈a,j2 b=true:=by
 induction a with
 |nil=>simp
 |cons f a e=>
  intro b d;rw[oS,aB]at c
  grind
def RN{b:H}{a d:List T}{base:Nat}{o:af Obj}{t:Mu}{j:List ao}(m:gU o t a j)(p:oS a=true)(n:RO b a=some d):d=a.map cn:=by
 obtain⟨v,hl,rfl⟩:=Ji n;have:fQ (ky b 0) a=some a:=by
  refine tu λh e=>?_;have f:=CT p h e;have⟨w,r⟩:=m.mem e;cases h with
  |agg l=>
   show(dV (fQ (iP b 0) l) λs=>some (T.agg s))=_;obtain⟨u,rfl,_,q⟩:=r.qg;rw[tu λi g=>qX b (CT (by rw[j2]at f;omega) i g) (λk c=>by have:=q i g;rw[c]at this;grind [T.scalar])];rfl
  |_=>exact qX b f (λk c=>by simp at c)
 rw[this]at hl;simp only[au]at hl;rw[hl]
def HS{e:fJ}{c:aj}{b:List T}{d:T}(a:rl P cx e c b=some d):lh P cx c b d:=by
 unfold rl at a;split at a
 ·grind
 ·split at a
  ·grind
  grind
def DO{h:fJ}{c:aj}{b:List T}{d e:H}{f:T}(a:hl P cx h c b d=some (f,e)):p8 P cx ⟨c,b,d,f,e⟩:=by
 unfold hl at a;split at a
 ·grind
 ·split at a
  ·rename_i g;simp only[au]at a;have:=g.choose_spec.2;rw[a]at this;omega
  grind
def Ep(P:ai)(cx:Ctx)(j:fJ):nR P cx (qZ P cx j):=by
 intro m k n q o a base f g d e b;unfold qZ at a;split at a
 ·exact DO a base f g d e b
 ·rename_i l h;split at a
  ·exact DO a base f g d e b
  ·rename_i r hr;split at a
   ·rename_i c;simp only[au,aD]at a;obtain⟨rfl,rfl⟩:=a;rw[bY]at c;rcases c with c|c
    ·obtain⟨p,hl,rfl⟩:=Ji h;exact M4 (HS hr) hl c base f g d e b
    ·have i:=RN (base:=base) b c h;subst i;exact M3 (HS hr) base f g d e b
   ·exact DO a base f g d e b
def gG.Ok(P:ai)(cx:Ctx)(c:aj)(b:gG):Prop:=∀a,b.pre a->lh P cx c (b.A a) (b.R a)
def im{g:fJ}{c:aj}{a:gG}(ht:g.p c=some a)(h:a.Ok P cx c)(b:a.α)(e:a.pre b):rl P cx g c (a.A b)=some (a.R b):=by
 have f:∃d,a.pre d/\a.A d=a.A b/\lh P cx c (a.A b) (a.R d):=⟨b,e,rfl,h b e⟩;unfold rl;rw[ht];simp only;rw[dif_pos f,a.inj _ _ f.choose_spec.2.1]
def li.Ok(P:ai)(cx:Ctx)(f:aj)(c:li):Prop:=∀a b,c.pre a b->∃e d,c.post a b e d/\p8 P cx ⟨f,a,b,e,d⟩
def FU{tb:fJ}{d:aj}{c:li}(ht:tb.h d=some c)(l:c.Ok P cx d){a:List T}{b:H}(m:c.pre a b):∃i e,hl P cx tb d a b=some (i,e)/\c.post a b i e:=by
 have⟨i,e,j,k⟩:=l a b m;have f:∃g:T×H,c.post a b g.1 g.2/\p8 P cx ⟨d,a,b,g.1,g.2⟩:=⟨(i,e),j,k⟩;refine⟨f.choose.1,f.choose.2,?_,f.choose_spec.1⟩;unfold hl;rw[ht];simp only;rw[dif_pos f]
theorem Ck{b:fJ}{a:aj}(ht:b.p a=none)(c:List T):rl P cx b a c=none:=by unfold rl;rw[ht]
def cfV(e:aa T)(c:Bool)(d:H)(a:aa (T×H)):aa (T×H):=match e with
 |none=>a
 |some b=>if(mw b||c)=true then some (b,d)else a
@[simp]def acp (b:Bool) (c:H) (a:aa (T×H)):cfV none b c a=a:=id rfl
@[simp]def Ro (a:T) (b:Bool) (c:H) (d:aa (T×H)):cfV (some a) b c d=if(mw a||b)=true then some (a,c)else d:=id rfl
def cfW(P:ai)(cx:Ctx)(e:fJ)(c:aj)(a:List T)(d:H)(b:aa (List T)):aa (T×H):=match b with
 |none=>hl P cx e c a d
 |some b=>cfV (rl P cx e c b) (oS a) d (hl P cx e c a d)
@[simp]def Rn (d:fJ) (b:aj) (a:List T) (c:H):cfW P cx d b a c none=hl P cx d b a c:=id rfl
@[simp]def Rm (d:fJ) (b:aj) (a e:List T) (c:H):cfW P cx d b a c (some e)=cfV (rl P cx d b e) (oS a) c (hl P cx d b a c):=id rfl
def Rp(d:fJ)(c:aj)(a:List T)(b:H):qZ P cx d c a b=cfW P cx d c a b (RO b a):=by
 unfold qZ cfW cfV;cases RO b a with
 |none=>rfl
 |some e=>rfl
end
end
section
section
variable {cx:Ctx}{h:H}
@[simp]def afk (a:ak) (b:Int):fz h (.int a b)=some (.int a b):=id rfl
@[simp]def adp (a:Bool):fz h (.bool a)=some (.bool a):=id rfl
@[simp]def afi (a:List Nat):fz h (.str a)=some (.str a):=id rfl
@[simp]def TG (a:List T) (b:Bool):fz h (.dK a b)=some (sl (a.map cn)):=by
 show some (cn (.dK a b))=_;rw[nL]
@[simp]def Xy (a b c d:Nat):fz h (.ptr a b c d)=none:=by
 unfold fz iP;simp
@[simp]def adw (c:Nat) (a:ak) (b:Int):xS h (c+1) (.int a b)=some (.int a b):=id rfl
@[simp]def acd (b:Nat) (a:Bool):xS h (b+1) (.bool a)=some (.bool a):=id rfl
@[simp]def adu (b:Nat) (a:List Nat):xS h (b+1) (.str a)=some (.str a):=id rfl
@[simp]def QY (c:Nat) (a:List T) (b:Bool):xS h (c+1) (.dK a b)=some (sl (a.map cn)):=by
 show some (cn (.dK a b))=_;rw[nL]
@[simp]def TJ (b:Nat) (a:List T):xS h (b+1) (.agg a)=dV (fQ (xS h b) a) λc=>some (.agg c):=by
 show(dV (dV (fQ (freeze h 0 b) a) λc=>some (T.agg c)) λd=>some (cn d))=_;unfold xS;rw[so];cases fQ (freeze h 0 b) a with
 |none=>rfl
 |some c=>simp[jN]
def ig(c e b d:Nat)(l:Bool):h.jw (.arr c e b d l)=dV (h.get c) λa=>gJ (decide (a.ep=e)) (if a.it=true then none else if b+d<=a.fg.length then some ((a.fg.drop b).take d)else none):=by
 show(dV (h.get c) λa=>iY.casesOn a λ_ g _ _ f j=>gJ (Nat.beq g e) (Bool.casesOn f (dV (j4 b j) λm=>takeN d m) none))=_;cases h.get c with
 |none=>rfl
 |some a=>
  obtain⟨o,g,p,n,f,k⟩:=a;simp only[ed,CE];congr 1;cases f with
  |true=>rfl
  |false=>
   simp only[cr,bw,mh,nY];by_cases i:b<=k.length
   ·rw[ar i,ed]
    grind
   ·rw[aq i,aq J];rfl
def yx(i a c e d:Nat)(k:Bool):xS h (i+1) (.arr a c e d k)=dV (h.jw (.arr a c e d k)) λf=>dV (fQ (xS h i) f) λb=>some (sl b):=by
 have p:freeze h 0 (i+1) (.arr a c e d k)=gJ (Nat.ble 0 a) (dV (h.get a) λg=>iY.casesOn g λ_ j _ exact l m=>
  gJ (Nat.beq j c) (@Bool.rec (λ_=>aa T) (dV (dV (j4 e m) λb=>takeN d b) λf=>dV (fQ (freeze h 0 i) f) λn=>
   @List.rec T (λ_=>aa T) (@List.rec T (λ_=>aa T) (@Bool.rec (λ_=>aa T) (some T.gX) (some (T.dK [] false)) exact) (λ_ _ _=>some T.gX) m) (λ_ _ _=>some (T.dK n k)) n) none l)):=rfl
 have q:h.jw (.arr a c e d k)=dV (h.get a) λg=>iY.casesOn g λ_ j _ _ l m=>gJ (Nat.beq j c) (@Bool.rec (λ_=>aa (List T)) (dV (j4 e m) λb=>takeN d b) none l):=rfl;unfold xS;rw[p,q];rw[show Nat.ble 0 a=true by simp,iH];cases h.get a with
 |none=>rfl
 |some g=>
  obtain⟨r,j,s,o,l,f⟩:=g;simp only[ed];cases Nat.beq j c with
  |false=>rfl
  |true=>
   simp only[iH];cases l with
   |true=>rfl
   |false=>
    simp only;cases (dV (j4 e f) λb=>takeN d b)with
    |none=>rfl
    |some es1=>
     simp only[ed];rw[so];cases fQ (freeze h 0 i) es1 with
     |none=>rfl
     |some LV=>
      simp only[ed];cases LV with
      |nil=>
       cases f with
       |nil=>cases o<;>simp[nL,sl]
       |cons=>simp[sl]
      |cons g b=>simp[nL]
@[simp]def wK (a b e d:Nat) (c:Bool):fz h (.arr a b e d c)=dV (h.jw (.arr a b e d c)) λf=>dV (fQ (xS h 11) f) λg=>some (sl g):=by
 rw[<-yx];unfold fz xS iP;simp only;rw[show Nat.ble 0 a=true by simp]
def Mc(a:List T):cn (sl a)=sl (a.map cn):=by
 cases a with
 |nil=>rfl
 |cons c b=>exact nL (c::b) false
def ab7(a:List T):fz h (sl a)=some (sl (a.map cn)):=by cases a<;>first|rfl|exact TG _ _
def Xz(b:Nat)(a:List T):xS h (b+1) (sl a)=some (sl (a.map cn)):=by cases a<;>first|rfl|exact QY b _ _
@[simp]def afB {d:Type} (a:d->T) (c:List d) (e:∀b,cn (a b)=a b):cn (sl (c.map a))=sl (c.map a):=by
 rw[Mc,cI];congr 2;funext b;grind
@[simp]def afj {d:Type} (a:d->T) (c:List d) (e:∀b,cn (a b)=a b):fz h (sl (c.map a))=some (sl (c.map a)):=by
 rw[ab7,cI];congr 3;funext b;grind
@[simp]def adv {d:Type} (e:Nat) (a:d->T) (c:List d) (f:∀b,cn (a b)=a b):xS h (e+1) (sl (c.map a))=some (sl (c.map a)):=by
 rw[Xz,cI];congr 3;funext b;grind
@[simp]def Iu {e:Type} (c:T->aa T) (a:e->T) (d:List e) (f:∀b,c (a b)=some (a b)):fQ c (d.map a)=some (d.map a):=tu λb g=>by
 grind
@[simp]def LR (a:List T):rS h (.agg a)=dV (fQ (fz h) a) λb=>some (.agg b):=by
 show(dV (dV (fQ (iP h 0) a) λb=>some (T.agg b)) λc=>some (cn c))=_;unfold fz;rw[so];cases fQ (iP h 0) a with
 |none=>rfl
 |some b=>simp[jN]
@[simp]def ads (a:ak) (b:Int):rS h (.int a b)=some (.int a b):=id rfl
@[simp]def aca (a:Bool):rS h (.bool a)=some (.bool a):=id rfl
@[simp]def adq (a:List Nat):rS h (.str a)=some (.str a):=id rfl
@[simp]def ab8 (a:List T) (b:Bool):rS h (.dK a b)=fz h (.dK a b):=id rfl
@[simp]theorem afl (a:List T):rS h (sl a)=fz h (sl a):=by cases a<;>rfl
@[simp]def adt (a b e d:Nat) (c:Bool):rS h (.arr a b e d c)=fz h (.arr a b e d c):=id rfl
@[simp]def adr (a b c d:Nat):rS h (.ptr a b c d)=none:=Xy (h:=h) a b c d
@[simp]def adT:RO h []=some []:=id rfl
@[simp]def acx (b:T) (a:List T):RO h (b::a)=dV (rS h b) λd=>dV (RO h a) λc=>some (d::c):=id rfl
@[simp]def Wh:oS []=true:=by rw[oS]
@[simp]def U8 (b:T) (a:List T):oS (b::a)=(j2 b&&oS a):=by rw[oS]
@[simp]def YH (a:ak) (b:Int):j2 (.int a b)=true:=by rw[j2]
@[simp]def Wj (a:Bool):j2 (.bool a)=true:=by rw[j2]
@[simp]def YG (a:List Nat):j2 (.str a)=true:=by rw[j2]
@[simp]def Wi (a:List T) (b:Bool):j2 (.dK a b)=true:=by rw[j2]
@[simp]def U9:j2 .gX=true:=by rw[j2]
@[simp]def aaN (a:List T):j2 (sl a)=true:=by cases a<;>simp[sl]
@[simp]def YJ (a:List T):j2 (.agg a)=oS a:=by rw[j2]
@[simp]def YI (a b e d:Nat) (c:Bool):j2 (.arr a b e d c)=false:=by simp[j2]
@[simp]def Vq:oZ []=true:=by rw[oZ]
@[simp]def SS (b:T) (a:List T):oZ (b::a)=(mw b&&oZ a):=by rw[oZ]
@[simp]def WA (a:ak) (b:Int):mw (.int a b)=true:=by rw[mw]
@[simp]def Vr (a:Bool):mw (.bool a)=true:=by rw[mw]
@[simp]def SU:mw .gX=true:=by rw[mw]
@[simp]def ST (a:List T):mw (.tuple a)=oZ a:=by rw[mw]
@[simp]def LO (a:List T):ni (sl a)=mp a:=by cases a<;>simp[sl]
@[simp]def adf {c:Type} (a:c->T) (b:List c) (d:∀e,ni (a e)=true):mp (b.map a)=true:=NH a d b
@[simp]theorem acq (a:List T):(sl a).cells=[sl a]:=by cases a<;>rfl
@[simp]theorem ado (a:List T):(sl a).iy=true:=by cases a<;>rfl
@[simp]def ab2 (a b e d:Nat) (c:Bool):(T.arr a b e d c).iy=true:=id rfl
@[simp]def ab0 (a b c d:Nat):(T.ptr a b c d).iy=true:=id rfl
@[simp]def Zl (a b e d:Nat) (c:Bool):(T.arr a b e d c).cells=[.arr a b e d c]:=id rfl
@[simp]def Zj (a b c d:Nat):(T.ptr a b c d).cells=[.ptr a b c d]:=id rfl
@[simp]def adg (b:Ty) (a:List T) (d:ab) (c:b.u= .slice d):EY cx h b (sl a)=some (.val (.int .i64 a.length) h):=by cases a<;>simp[sl,c]
@[simp]theorem adm (c:Ty) (a:List T) (b:Nat):kK h c (sl a) b=dV (a[b]?) λd=>gJ (decide (d.cells.length=c.size)) (some (.val (.jD d.cells) h)):=by cases a<;>simp[sl];rfl
@[simp]theorem QU (a:List T):h.jw (sl a)=some a:=by cases a<;>rfl
def As{a b:List T}(c:sl a=sl b):a=b:=by
 cases a<;>cases b<;>simp[sl]at c
 ·rfl
 grind
def jx{f:Type}{a:f->T}(i:∀d e,a d=a e->d=e){b c:List f}(g:sl (b.map a)=sl (c.map a)):b=c:=by
 have:=As g
 grind [List.map_inj_right]
@[simp]def dS (b:iY) (a:Nat):(h.cons b).get a=if a=h.size then some b else h.get a:=by
 rw[H.get_eq,H.get_eq];show(if a<h.size+1 then(b::h.fH)[h.size+1-1-a]? else none)=_
 grind
def dN{a:Nat}{x:iY}(k:h.get a=some x)(d:iY)(f:Nat):(dZ h a d).get f=if f=a then some d else h.get f:=by
 have c:=zd k d;generalize dZ h a d=g at*
 obtain⟨b,i,e⟩:=h;have l:a<b:=H.fh k;have c:(gJ (Nat.blt a b) (dV (kO e (Nat.sub (Nat.sub b 1) a) d) λj=> @Bool.rec (λ_=>aa H) (some ⟨b,i,j⟩) (some ⟨b,a,j⟩) (Nat.blt a i)))=some g:=c;rw[show Nat.blt a b=true by rw[aJ];exact l,iH,kQ]at c;by_cases hl:Nat.sub (Nat.sub b 1) a<e.length
 ·rw[ar hl,ed]at c;have p:g.size=b/\g.fH=e.set (b-1-a) d:=by
   cases m:Nat.blt a i<;>rw[m]at c<;>simp only[au]at c<;>subst c<;>exact⟨rfl,rfl⟩
  obtain⟨n,o⟩:=p;rw[H.get_eq,H.get_eq,n,o];have hl:b-1-a<e.length:=hl
  grind
 simp_all[aq]
@[simp]theorem fK (b:Nat) (f:iY):(dZ h b f).size=h.size:=by
 unfold dZ;cases a:h.put b f with
 |none=>rfl
 |some g=>
  obtain⟨c,e,i⟩:=h;have a:(gJ (Nat.blt b c) (dV (kO i (Nat.sub (Nat.sub c 1) b) f) λd=> @Bool.rec (λ_=>aa H) (some ⟨c,e,d⟩) (some ⟨c,b,d⟩) (Nat.blt b e)))=some g:=a;have⟨_,a⟩:=dQ.1 a;have⟨d,_,a⟩:=dI.1 a;show g.size=c;cases j:Nat.blt b e<;>rw[j]at a<;>simp only[au]at a<;>subst a<;>rfl
@[simp]def ad5 (b:Nat) (g:iY):Hp (dZ h b g)=Hp h:=by
 unfold dZ;cases a:h.put b g with
 |none=>rfl
 |some i=>
  obtain⟨d,f,j⟩:=h;have a:(gJ (Nat.blt b d) (dV (kO j (Nat.sub (Nat.sub d 1) b) g) λe=> @Bool.rec (λ_=>aa H) (some ⟨d,f,e⟩) (some ⟨d,b,e⟩) (Nat.blt b f)))=some i:=a;have⟨_,a⟩:=dQ.1 a;have⟨e,c,a⟩:=dI.1 a;rw[kQ]at c;split at c
  ·simp only[au]at c;subst c;show Hp i=_;unfold Hp;cases k:Nat.blt b f<;>rw[k]at a<;>simp only[au]at a<;>subst a<;>simp
  grind
@[simp]def SF (a:Nat):fk h h a=true:=by
 unfold fk;cases h.get a<;>simp
def Bc{b:Nat}{e:iY}(d:h.get b=some e)(f:iY){a:Nat}(c:a≠b):fk h (dZ h b f) a=true:=by
 unfold fk;rw[dN d,aq c];cases h.get a<;>simp
def NU(h:H)(a:List T):aa T:=dV (jn h 0 (jP a)) λb=>some (cn b)
@[simp]def Q2 (a:T) (b:a.iy=true):NU h [a]=rS h a:=by
 cases a<;>first|rfl|(simp[T.iy]at b)
def IT(a:List T):(dV (jn h 0 (.tuple a)) λc=>some (cn c))=dV (fQ (rS h) a) λb=>some (.tuple b):=by
 show(dV (dV (fQ (ky h 0) a) λb=>some (T.tuple b)) λc=>some (cn c))=_;unfold rS;rw[so];cases fQ (ky h 0) a with
 |none=>rfl
 |some b=>simp[uI]
@[simp]def afm (b c:T) (a:List T):NU h (b::c::a)=dV (fQ (rS h) (b::c::a)) λd=>some (.tuple d):=IT (b::c::a)
def Le(h:H)(a:List T)(b:T):Prop:=Hp h/\NU h a=some b
def UF(a:List T)(b:T):Le h a b=(Hp h/\NU h a=some b):=rfl
attribute [simp] UF
end
section
variable {P:ai}{cx:Ctx}{cf:jd}{mask:Nat}
def pt:List (Nat×gG)->aj->aa gG
 | [],_=>none
 |(b,d)::c,a=>if a=b then some d else pt c a
def ht:List (Nat×li)->aj->aa li
 | [],_=>none
 |(b,d)::c,a=>if a=b then some d else ht c a
@[simp]def aeC (a:aj):pt [] a=none:=id rfl
@[simp]def ac9 (b:Nat) (d:gG) (c:List (Nat×gG)) (a:aj):pt ((b,d)::c) a=if a=b then some d else pt c a:=id rfl
@[simp]def aff (a:aj):ht [] a=none:=id rfl
@[simp]def adn (b:Nat) (d:li) (c:List (Nat×li)) (a:aj):ht ((b,d)::c) a=if a=b then some d else ht c a:=id rfl
def fD{f:Env->H->Out}(b:Nat)(l:b<9223372036854775808)(d:Nat->fW->H->Prop){e:iS}
 (m:∀c a h,c<b->binop .add (.int .i64 (c:Int)) (.int .i64 1)=some (.int .i64 ((c:Int)+1))->d c a h->W (f ⟨a,.nil⟩ h) (yr (λg h=>g.tmps= .nil/\d (c+1) g.vars h) e))
 (o:∀a h,d b a h->W (f ⟨a,.nil⟩ h) (yr (λg h=>False) e))
 {j:Nat} (k:b<j) {a:fW} {h:H} (i:d 0 a h):W (oL f j ⟨a,.nil⟩ h) e:=by
 refine R0 b d (λc a h n i=>?_) k (ax b) i
 grind [aR,iL]
def Af{a:Func}(c:xQ ⟨a,mask,false,none⟩=true):∃b,a.body=some b:=by
 unfold xQ at c
 grind
def ZC(B:P.follows .mixedOrders=true)(jq:jg P cx){l:aj}{b:Func}{r:DL}(g:EI P cx l b mask r)(x:nR P cx cf){a:List T}{n:T}(hl:mp a=true)(C:a.length<=b.ntmps)(i:Nat)
 (I:∀v,mV v 0 a->W (jy cx cf i mask r (b.body.getD .skip) ⟨v,.nil⟩ hE) (zu cx mask b.results.toList λt h=>Le h t n)):lh P cx l a n:=by
 have R:∃c,cn c=n/\tL cx cf i b mask false a hE=some (c,hE):=by
  have⟨u,G,_,A⟩:=mO mask b.ntmps 0 a C;have⟨S,y,h,d,K,t,hr,D,f⟩:=ED (I u A);have d:=qI _ g.dr _ _ _ d;have⟨w,e⟩:=Af g.ok;rw[e]at d;unfold NU at f;have⟨c,f,s⟩:=dI.1 f;simp only[au]at s;refine⟨c,s,?_⟩;unfold tL;rw[e];simp only;rw[G,ed];have d:kc cx cf i mask w ⟨u,.nil⟩ ⟨0,0,[]⟩=some (S,y,h):=d;rw[d,ed,lY];have E:=oU hr;rcases K with rfl|rfl<;>(simp only;rw[E,ed];exact IB D f)
 obtain⟨c,rfl,e⟩:=R;have z:lh P cx l a c:=zf (ls _ hl) λj p q k o m=>
  pM (F:=⟨b,mask,false,none⟩) B jq g.at_ g.ok cf x i a hE c hE e j p q k o m
 intro j p q k h o m;refine(z j p q k h o m).mono λV X ⟨⟨U,L,M,N,O⟩,Q⟩=>?_;exact⟨⟨U,L.cn,M,N,O⟩,Q⟩
