/- TiQuick -/
import Derived.Test.YtajpdafdickapaaGreatDoorA5
import Derived.KernelRfl
set_option linter.all false
namespace Go.TI
noncomputable section
section
def Y9(a:Fun):Code:=Option.casesOn a.fn.body .skip λb=>b
section
variable {mask nt:Nat}{K:List Nat}{pre:List T}
end
section
variable {P:List T->Prop}
end
end
mutual
def yI:T->T->Bool
 | .undef,a=>(match a with| .undef=>true|_=>false)
 | .bool y,a=>(match a with| .bool n=>Bool.casesOn y (!n) n|_=>false)
 | .int o q,a=>(match a with| .int p r=>decide (o=p)&&decide (q=r)|_=>false)
 | .str s,a=>(match a with| .str t=>decide (s=t)|_=>false)
 | .kE,a=>(match a with| .kE=>true|_=>false)
 | .kT,a=>(match a with| .kT=>true|_=>false)
 | .kS,a=>(match a with| .kS=>true|_=>false)
 | .oq,a=>(match a with| .oq=>true|_=>false)
 | .gW,a=>(match a with| .gW=>true|_=>false)
 | .ptr a h j l,b=>(match b with| .ptr d i k m=>Nat.beq a d&&Nat.beq h i&&Nat.beq j k&&Nat.beq l m|_=>false)
 | .arr a h j l g,b=>(match b with| .arr d i k m c=>Nat.beq a d&&Nat.beq h i&&Nat.beq j k&&Nat.beq l m&&Bool.casesOn g (!c) c|_=>false)
 | .map a,b=>(match b with| .map d=>Nat.beq a d|_=>false)
 | .dK e g,b=>(match b with| .dK f c=>B5 e f&&Bool.casesOn g (!c) c|_=>false)
 | .agg e,b=>(match b with| .agg f=>B5 e f|_=>false)
 | .func g e,b=>(match b with| .func c f=>Nat.beq g c&&B5 e f|_=>false)
 | .iface u w,b=>(match b with| .iface v x=>Nat.beq u v&&yI w x|_=>false)
 |_,_=>false
def B5:List T->List T->Bool
 | [],a=>(match a with| []=>true|_=>false)
 |x::b,a=>(match a with|y::c=>yI x y&&B5 b c|_=>false)
end
def LA{b a:Bool}(c:(@Bool.rec (λ_=>Bool) (!a) a b)=true):b=a:=by cases b<;>cases a<;>simp_all
mutual
def Lj:(h b:T)->yI h b=true->h=b
 | .undef,b,a=>by cases b<;>first|rfl|simp[yI]at a
 | .bool z,b,a=>by
  cases b<;>first|(simp[yI]at a;done)|skip
  rename_i n;have a:(@Bool.rec (λ_=>Bool) (!n) n z)=true:=by grind [yI]
  rw[LA a]
 | .int A B,b,a=>by cases b<;>simp[yI]at a;grind
 | .str C,b,a=>by cases b<;>simp[yI]at a;grind
 | .kE,b,a=>by cases b<;>first|rfl|simp[yI]at a
 | .kT,b,a=>by cases b<;>first|rfl|simp[yI]at a
 | .kS,b,a=>by cases b<;>first|rfl|simp[yI]at a
 | .oq,b,a=>by cases b<;>first|rfl|simp[yI]at a
 | .gW,b,a=>by cases b<;>first|rfl|simp[yI]at a
 | .ptr b i j k,c,a=>by cases c<;>simp[yI]at a;grind
 | .arr b i j k g,c,a=>by
  cases c<;>first|(simp[yI]at a;done)|skip
  rename_i o p v w f;have a:(Nat.beq b o&&Nat.beq i p&&Nat.beq j v&&Nat.beq k w&& @Bool.rec (λ_=>Bool) (!f) f g)=true:=by grind [yI]
  simp only[ax]at a;obtain⟨⟨⟨⟨q,r⟩,s⟩,t⟩,u⟩:=a;rw[aF q,aF r,aF s,aF t,LA u]
 | .map b,c,a=>by cases c<;>simp[yI]at a;grind
 | .dK d g,c,a=>by
  cases c<;>first|(simp[yI]at a;done)|skip
  rename_i e f;have a:(B5 d e&& @Bool.rec (λ_=>Bool) (!f) f g)=true:=by grind [yI]
  simp only[ax]at a;rw[Cr d e a.1,LA a.2]
 | .agg d,c,a=>by
  cases c<;>first|(simp[yI]at a;done)|skip
  rename_i e;have a:B5 d e=true:=by grind [yI]
  rw[Cr d e a]
 | .func g d,c,a=>by
  cases c<;>first|(simp[yI]at a;done)|skip
  rename_i f e;have a:(Nat.beq g f&&B5 d e)=true:=by grind [yI]
  simp only[ax]at a;rw[aF a.1,Cr d e a.2]
 | .iface x l,c,a=>by
  cases c<;>first|(simp[yI]at a;done)|skip
  rename_i y m;have a:(Nat.beq x y&&yI l m)=true:=by grind [yI]
  simp only[ax]at a;rw[aF a.1,Lj l m a.2]
 | .jH _,b,a=>by grind [yI]
 | .iter _,b,a=>by grind [yI]
 | .tuple _,b,a=>by grind [yI]
def Cr:(c a:List T)->B5 c a=true->c=a
 | [],a,b=>by cases a<;>first|rfl|grind [B5]
 |x::d,a,b=>by
  cases a<;>first|(simp[B5]at b;done)|skip
  rename_i e f;have b:(yI x e&&B5 d f)=true:=by grind [B5]
  simp only[ax]at b;rw[Lj x e b.1,Cr d f b.2]
end
structure Ent where
 f:Nat
 args:List T
 h:H
 r:T
 h':H
def qh(d:ai)(cx:Ctx)(a:Ent):Prop:=
 ∀e b c (g:af am),St cx e b.heap c a.h->gY b.heap c a.args g.toList->Ay d (ry cx e b c a.h a.r a.h') ((callFunc a.f g).run d b)
mutual
def nz:T->Bool
 | .undef| .bool _| .int _ _| .str _| .kE| .gW| .kT| .kS| .oq=>true
 | .dK a _=>mv a
 | .agg a=>mv a
 | .tuple a=>mv a
 | .jH a=>mv a
 | .func _ a=>mv a
 | .iface _ b=>nz b
 |_=>false
def mv:List T->Bool
 | []=>true
 |x::a=>nz x&&mv a
end
mutual
def Dy:(c:T)->nz c=true->qf 0 c
 | .undef,_=> .undef
 | .bool _,_=> .bool _
 | .int _ _,_=> .int _ _
 | .str _,_=> .str _
 | .kE,_=> .kE
 | .gW,_=> .gW
 | .kT,_=> .kT
 | .kS,_=> .kS
 | .oq,_=> .oq
 | .dK a h,b=> .dK _ _ λc f=>by
  have⟨d,e,g⟩:=List.mem_flatMap.1 f;exact(ls a (by grind [nz]) d e).cells c g
 | .agg a,b=> .agg _ (ls a (by grind [nz]))
 | .tuple a,b=> .tuple _ (ls a (by grind [nz]))
 | .jH a,b=> .jH _ (ls a (by grind [nz]))
 | .func _ a,b=> .func _ _ (ls a (by grind [nz]))
 | .iface _ c,b=> .iface _ _ (Dy c (by grind [nz]))
 | .ptr _ _ _ _,b=>by grind [nz]
 | .arr _ _ _ _ _,b=>by grind [nz]
 | .iter _,b=>by grind [nz]
 | .map _,b=>by grind [nz]
def ls:(d:List T)->mv d=true->∀c∈d,qf 0 c
 | [],_=>λc b=>by grind
 |x::g,a=>λc b=>by
  unfold mv at a;rw[ax]at a;have e:=Dy x a.1;rcases List.mem_cons.1 b with f|b
  ·rw[f];exact e
  ·exact ls g a.2 c b
end
def fI.move{y:af Obj}{z A:Mu}{b:T}{l:am}(a:fI y z b l)(x:∀n,nR A n->nR z n)(hl:qf 0 b):fI y A b l:=by
 induction a with
 |undef=>exact .undef
 |bool h=>exact .bool h
 |int c K=>exact .int c K
 |str L a=>exact .str L a
 |kE=>exact .kE
 |ptr h D n Q o g s G P=>cases hl with|ptr _ _ _ _ a=>omega
 |jH r p off arr k fz u t f j hr e=>
  cases hl with|jH _ a=>exact .jH r p off arr k fz (λc=>u (x _ c)) t f j λc b d=>e c b d (a b (ay d))
 |oc m g=>exact .oc m g
 |dK C E m p off q M arr k fz u t w H I f j hr e=>
  cases hl with|dK _ _ a=>exact .dK C E m p off q M arr k fz (λc=>u (x _ c)) t w H I f j λc b d=>e c b d (a b (ay d))
 |gW g q=>exact .gW g q
 |arr h D S R m o g O s G w v=>cases hl with|arr _ _ _ _ _ a=>omega
 |func F B i f hr e=>cases hl with|func _ _ a=>exact .func F B i f λc b d=>e c b d (a b (ay d))
 |kT=>exact .kT
 |kS=>exact .kS
 |iface k b l a e=>cases hl with|iface _ _ a=>exact .iface k b l (e a)
 |iter h o g s v=>cases hl with|iter _ a=>omega
 |map h o n s v=>cases hl with|map _ a=>omega
 |oq=>exact .oq
 |agg r i f j hr e=>cases hl with|agg _ a=>exact .agg r i f j λc b d=>e c b d (a b (ay d))
 |tuple N i f hr e=>cases hl with|tuple _ a=>exact .tuple N i f λc b d=>e c b d (a b (ay d))
def lf(d:ai)(cx:Ctx)(h:Nat)(g:List T)(i:T):Prop:=
 ∀e a c (f:af am) (b:H),St cx e a.heap c b->gY a.heap c g f.toList->Ay d (ry cx e a c b i b) ((callFunc h f).run d a)
def It{s:ai}{cx:Ctx}{u:Nat}{k:List T}{z:T}{v:H}(hl:∀i∈k,qf 0 i)(L:v.size=0)(D:qh s cx ⟨u,k,⟨0,0,[]⟩,z,v⟩):lf s cx u k z:=by
 intro S h f t U e w;have q:∀a,nR ⟨λ_=>none,nR f⟩ a->nR f a:=by
  rintro a (⟨d,b,c,_⟩|hr)
  ·grind
  omega
 have E:∀a,nR f a->a<h.heap.size:=by
  rintro a (⟨d,b,c,rfl⟩|hr)
  ·exact e.lt c
  ·exact e.rE a hr
 have N:St cx h.heap.size h.heap ⟨λ_=>none,nR f⟩ ⟨0,0,[]⟩:=by
  refine⟨rfl,au _,λd b c=>by grind,λd R b Q c=>by simp,λd b c=>by grind,λd b c=>by grind,λa hr=>E a hr,λn m p=>?_⟩;have:=e.Ab n m p;refine this.move q ?_;have⟨_,_,_,_,_,_,_,_,_,I,_⟩:=this.mh;exact .jH _ λi l=>(I i l).2.low 0
 have B:gY h.heap ⟨λ_=>none,nR f⟩ k t.toList:=⟨w.1,λr i l=>(w.2 r i l).move q (hl i (ay l))⟩;refine(D h.heap.size h ⟨λ_=>none,nR f⟩ t N B).mono λi A ⟨⟨P,y,M,g,V⟩,W⟩=>?_;have G:∀a,nR f a->nR P a:=λa j=> .inr (by rw[g.ext.pM];exact j);have o:Ext h.heap f A.heap f:=by
  refine⟨g.ext.size,λa j x=>⟨(g.ext.nZ a j (λr=>x (q a r))).1,x⟩,λd b c=>⟨b,c,.inl rfl⟩,rfl,λa j hr=>?_⟩;exact g.ext.kept a j (.inr hr)
 have C:∀d b,f d=some b->A.heap[b.ja]? =h.heap[b.ja]? :=λd b c=>g.ext.kept b.ja (e.lt c) (.inl ⟨d,b,c,rfl⟩);refine⟨⟨f,y.move G (y.low λd b c=>L▸M.fa c),⟨e.wf,aO e.fit g.ext.size,λd b c=>?_,e.inj,e.low,e.apart,λa hr=>bD (e.rE a hr) g.ext.size,λn m p=>(e.Ab n m p).ext o⟩,⟨o,g.os,g.tape,g.output⟩,yS.refl _ _⟩,lr.refl e.wf⟩;have⟨O,K,F⟩:=e.box d b c;exact⟨O,K,F.ext o (C d b c)⟩
def BO:List T->List T->Bool
 | [],a=>(match a with| []=>true|_=>false)
 |x::b,a=>(match a with|y::c=>BO b c&&yI x y|_=>false)
def zv{b:ai}{cx:Ctx}{c:Nat}{a:List T}{d:T}(hl:∀f∈a,qf 0 f)(e:qh b cx ⟨c,a,⟨0,0,[]⟩,d,⟨0,0,[]⟩⟩):lf b cx c a d:=It hl rfl e
def RJ:∀(b a:List T),BO b a=true->b=a:=by
 intro b;induction b with
 |nil=>intro a c;cases a<;>first|rfl|grind [BO]
 |cons f g d=>
  intro a c;cases a with
  |nil=>grind [BO]
  |cons h e=>
   simp only[BO,ax]at c;rw[Lj _ _ c.2,d e c.1]
abbrev v7:=List (Nat×List (List T×T))
def F6(e:List (List T×T))(b:List T):aa T:=
 @List.rec (List T×T) (λ_=>aa T) none (λc _ d=>Prod.casesOn c λa f=> @Bool.rec (λ_=>aa T) d (some f) (BO b a)) e
def BN(h:v7)(d:Nat)(b:List T):aa T:=
 @List.rec (Nat×List (List T×T)) (λ_=>aa T) none (λc _ a=>Prod.casesOn c λe f=> @Bool.rec (λ_=>aa T) a (Option.casesOn (F6 f b) a λg=>some g) (Nat.beq d e)) h
inductive yR (P:ai) (cx:Ctx):v7->Prop where
 |nil:yR P cx []
 |new {f:Nat} {t:v7}:yR P cx t->yR P cx ((f,[])::t)
 |ent {f:Nat} {a:List T} {r:T} {l:List (List T×T)} {t:v7}:lf P cx f a r->yR P cx ((f,l)::t)->yR P cx ((f,(a,r)::l)::t)
def yR.mem{a:ai}{cx:Ctx}{f:v7}(g:yR a cx f):∀c d,(c,d)∈f->∀b e,(b,e)∈d->lf a cx c b e:=by
 induction g with
 |nil=>simp
 |new _ h=>
  grind
 |ent i _ h=>
  grind
theorem OB{c:List (List T×T)}{b:List T}{d:T}(a:F6 c b=some d):(b,d)∈c:=by
 induction c with
 |nil=>grind [F6]
 |cons g c h=>
  obtain⟨f,r1⟩:=g;have a: @Bool.rec (λ_=>aa T) (F6 c b) (some r1) (BO b f)=some d:=a;cases e:BO b f with
  |false=>rw[e]at a;grind
  |true=>
   rw[e]at a;have a:some r1=some d:=a;simp only[ar]at a;subst a;rw[RJ _ _ e];simp
def Oz{e:v7}{c:Nat}{b:List T}{d:T}(a:BN e c b=some d):∃f,(c,f)∈e/\(b,d)∈f:=by
 induction e with
 |nil=>grind [BN]
 |cons k e m=>
  obtain⟨g,f⟩:=k;have a: @Bool.rec (λ_=>aa T) (BN e c b) (@Option.rec T (λ_=>aa T) (BN e c b) (λd=>some d) (F6 f b)) (Nat.beq c g)=some d:=a;have o:BN e c b=some d->∃j,(c,j)∈(g,f)::e/\(b,d)∈j:=λn=>by
   grind
  cases h:Nat.beq c g with
  |false=>rw[h]at a;grind
  |true=>
   rw[h]at a;cases i:F6 f b with
   |none=>rw[i]at a;grind
   |some l=>
    rw[i]at a;have a:some l=some d:=a;simp only[ar]at a;subst a;rw[aF h]
    grind [OB,List.mem_cons_self]
def Ru(h:v7)(ft:aj->aa qT):aj->aa qT:=λb=>
 Option.casesOn (ft b) none λe=>some λd f a c=>Option.casesOn (BN h b a) (e d f a c) λg=>some (g,c)
def Rt{i:ai}{cx:Ctx}{h:v7}{ft:aj->aa qT}(y:yR i cx h)(z:∀a c,ft a=some c->mJ i cx a c):∀a c,Ru h ft a=some c->mJ i cx a c:=by
 intro a c f;unfold Ru at f;cases k:ft a with
 |none=>rw[k]at f;grind
 |some o=>
  rw[k]at f;simp only[ar]at f;subst f;intro n v q d e g j b l t u m s p;have b: @Option.rec T (λ_=>aa (T×H)) (o n q d e) (λg=>some (g,e)) (BN h a d)=some (g,j):=b;cases hE:BN h a d with
  |none=>rw[hE]at b;exact z a o k n v q d e g j b l t u m s p
  |some r=>
   rw[hE]at b;have b:some (r,e)=some (g,j):=b;simp only[ar,aB]at b;obtain⟨rfl,rfl⟩:=b;have⟨A,w,x⟩:=Oz hE;exact y.mem a A w d r x l t u m e s p
def yj(b:v7)(ft:aj->aa qT)(a:Nat):je:=JB (Ru b ft) a
def JA{a:ai}{cx:Ctx}{e:v7}{ft:aj->aa qT}(f:yR a cx e)(g:∀b c,ft b=some c->mJ a cx b c)(d:Nat):nY a cx (yj e ft d):=BQ (Rt f g) d
def yR.next{c:ai}{cx:Ctx}{f:v7}{ft:aj->aa qT}(n:∀a g,ft a=some g->mJ c cx a g){i:Nat}{a:Nat}{d:List (List T×T)}(h:yR c cx ((a,d)::f)){b:List T}{e:T}
 (hl:mv b=true) (m:yj ((a,d)::f) ft i a b ⟨0,0,[]⟩=some (e,⟨0,0,[]⟩)):yR c cx ((a,(b,e)::d)::f):=
 .ent (zv (ls b hl) λj p q k o l=>JA h n i a b ⟨0,0,[]⟩ e ⟨0,0,[]⟩ m j p q k o l) h
section
def put(a:fZ)(b:Nat)(d:T):fZ:=(mc a b d).getD a
def pU(d:fZ)(a:Nat)(c:T):mc d a c=some (put d a c):=by
 have:∃b,mc d a c=some b:=by
  induction d with
  |nil=>exact⟨_,rfl⟩
  |cons e i b g=>
   obtain⟨h,ht⟩:=g;cases f:Nat.beq e a with
   |true=>exact⟨.cons e c b,by show @Bool.rec (λ_=>aa fZ) _ _ (Nat.beq e a)=_;rw[f]⟩
   |false=>simp_all[mc,dW]
 obtain⟨b,hr⟩:=this;rw[hr];unfold put;rw[hr];rfl
def mG(b:Nat)(d:T)(c:fZ)(a:Nat):dL (.cons b d c) a=if b=a then some d else dL c a:=by
 show @Bool.rec (λ_=>aa T) (dL c a) (some d) (Nat.beq b a)=_;cases e:Nat.beq b a with
 |true=>rw[aq (aF e)]
 |false=>rw[ao (cR e)]
def FW(a:Nat):dL .nil a=none:=rfl
def Rx(g:fZ)(b:Nat)(c:T)(i:Nat):dL (put g b c) i=if b=i then some c else dL g i:=by
 have a:=pU g b c;generalize put g b c=f at a;induction g generalizing f with
 |nil=>
  have a:some (fZ.cons b c .nil)=some f:=a;simp only[ar]at a;subst a;rw[mG,FW]
 |cons e j d k=>
  have a: @Bool.rec (λ_=>aa fZ) (dW (mc d b c) λd=>some (.cons e j d)) (some (.cons e c d)) (Nat.beq e b)=some f:=a;cases h:Nat.beq e b with
  |true=>
   rw[h]at a;have a:some (fZ.cons e c d)=some f:=a;simp only[ar]at a;subst a;have:=aF h;subst this;simp only[mG];split<;>rfl
  |false=>
   rw[h]at a;have a:(dW (mc d b c) λd=>some (fZ.cons e j d))=some f:=a;rw[pU]at a;simp only[ed,ar]at a;subst a;have:=cR h;rw[mG,mG,k _ (pU _ _ _)]
   grind
structure iR where
 n:Env->H->Prop
 x:Nat->Env->H->Prop
 r:Env->H->Prop
def W(f:Out)(c:iR):Prop:=∃d a b,f=some (d,a,b)/\Ex.casesOn d (c.n a b) (λe=>c.x e a b) (c.r a b)
@[simp]def Ep (a:Env) (b:H) (d:iR):W (some (.normal,a,b)) d=d.n a b:=by
 apply propext;constructor
 ·rintro⟨h,f,g,e,c⟩;simp only[ar,aB]at e;obtain⟨rfl,rfl,rfl⟩:=e;exact c
 ·exact λc=>⟨_,a,b,rfl,c⟩
@[simp]def HX (f:Nat) (a:Env) (b:H) (d:iR):W (some (.exit f,a,b)) d=d.x f a b:=by
 apply propext;constructor
 ·rintro⟨i,g,h,e,c⟩;simp only[ar,aB]at e;obtain⟨rfl,rfl,rfl⟩:=e;exact c
 ·exact λc=>⟨_,a,b,rfl,c⟩
@[simp]def adu (a:Env) (b:H) (d:iR):W (some (.ret,a,b)) d=d.r a b:=by
 apply propext;constructor
 ·rintro⟨h,f,g,e,c⟩;simp only[ar,aB]at e;obtain⟨rfl,rfl,rfl⟩:=e;exact c
 ·exact λc=>⟨_,a,b,rfl,c⟩
def SW(a:iR):¬W none a:=by rintro⟨e,b,c,d,_⟩;grind
def GZ(b:Env->H->Out)(a:iR):iR:=⟨λc d=>W (b c d) a,a.x,a.r⟩
def sk(id:Nat)(a:iR):iR:=⟨a.n,λd b c=>if d=id then a.n b c else a.x d b c,a.r⟩
def yD(b:Env->H->Prop)(a:iR):iR:=⟨b,a.x,a.r⟩
@[simp]theorem afY (b:Env->H->Out) (a:iR) (c:Env) (d:H):(GZ b a).n c d=W (b c d) a:=rfl
@[simp]theorem Yg (e:Env->H->Out) (a:iR) (d:Nat) (b:Env) (c:H):(GZ e a).x d b c=a.x d b c:=rfl
@[simp]theorem afX (d:Env->H->Out) (a:iR) (b:Env) (c:H):(GZ d a).r b c=a.r b c:=rfl
@[simp]theorem acz (id:Nat) (a:iR) (b:Env) (c:H):(sk id a).n b c=a.n b c:=rfl
@[simp]theorem zW (id:Nat) (a:iR) (d:Nat) (b:Env) (c:H):(sk id a).x d b c=if d=id then a.n b c else a.x d b c:=rfl
@[simp]theorem acy (id:Nat) (a:iR) (b:Env) (c:H):(sk id a).r b c=a.r b c:=rfl
@[simp]theorem af1 (a:Env->H->Prop) (d:iR) (b:Env) (c:H):(yD a d).n b c=a b c:=rfl
@[simp]theorem afZ (e:Env->H->Prop) (a:iR) (d:Nat) (b:Env) (c:H):(yD e a).x d b c=a.x d b c:=rfl
@[simp]theorem af0 (d:Env->H->Prop) (a:iR) (b:Env) (c:H):(yD d a).r b c=a.r b c:=rfl
@[simp]def adt (c e:Env->H->Out) (a:Env) (b:H) (d:iR):W (CR c e a b) d=W (c a b) (GZ e d):=by
 apply propext;unfold CR;cases k:c a b with
 |none=>constructor<;>(rintro⟨f,a,b,g,_⟩;simp[dW]at g)
 |some h=>
  obtain⟨f,i,j⟩:=h;simp only[ed,ma];cases f<;>simp
@[simp]def Vn (id:Nat) (g:Env->H->Out) (b:Env) (d:H) (a:iR):W (yO id g b d) a=W (g b d) (sk id a):=by
 apply propext;unfold yO;cases l:g b d with
 |none=>constructor<;>(rintro⟨i,b,d,j,_⟩;simp[dW]at j)
 |some k=>
  obtain⟨i,c,e⟩:=k;simp only[ed,ma];cases i with
  |normal=>simp
  |ret=>simp
  |exit f=>
   show W (@Bool.rec (λ_=>Out) (some (.exit f,c,e)) (some (.normal,c,e)) (Nat.beq f id)) a↔_;cases h:Nat.beq f id with
   |true=>
    show W (some (.normal,c,e)) a↔_;rw[Ep,HX,zW,aq (aF h)]
   |false=>
    show W (some (.exit f,c,e)) a↔_;rw[HX,HX,zW,ao (cR h)]
def R0(d:aa T)(a b:Prop):Prop:=match d with
 |some (.bool c)=>if c=true then a else b
 |_=>False
def SY{σ:Type}{g:Env->H->Out}(I:σ->Env->H->Prop)(m:σ->Nat){h:iR}
 (n:∀c a b,I c a b->W (g a b) (yD (λe f=>∃i,m i<m c/\I i e f) h)):
 ∀d c a b,m c<d->I c a b->W (oQ g d a b) h:=by
 intro d;induction d with
 |zero=>omega
 |succ d w=>
  intro c a b u l;have⟨j,r,s,o,p⟩:=n c a b l;show W (dW (g a b) λq=>three q λj e f=> @Ex.rec (λ_=>Out) (oQ g d e f) (λk=>some (.exit k,e,f)) (some (.ret,e,f)) j) h;rw[o];simp only[ed,ma];cases j with
  |normal=>
   obtain⟨i,v,t⟩:=p
   grind
  |exit k=>simp_all
  |ret=>simp_all
section
variable {P:ai}{cx:Ctx}
end
end
@[simp]theorem aen (c:je) (d a:H) (b:T):fin c d (some (.val b a))=some (b,a):=rfl
@[simp]theorem ac4 (b:je) (d:H) (c:aj) (a:List T):fin b d (some (.call c a))=b c a d:=rfl
@[simp]theorem yY (a:H) (b:T):val a (some b)=some (.val b a):=rfl
@[simp]theorem H7 (a:H) (b:T):jL (some (b,a))=some (.val b a):=rfl
def UG(a b:List Nat):WB a b=decide (a=b):=by rw[HA,bp];simp
def UH(a b:Int):Tz a b=decide (a=b):=by rw[yJ];rfl
def xF(a b:Int):Mo a b=decide (a<b):=yC a b
@[simp]theorem so (a:ak):Ew a a=true:=by cases a<;>rfl
@[simp]theorem YB (d a:ak) (b c:Int):sH (.int d) (.int a b) (.int a c)=some (decide (b=c)):=by
 show gX (Ew a a) (some (Tz b c))=_;rw[so,UH];rfl
@[simp]def YA (a b:List Nat):sH .str (.str a) (.str b)=some (decide (a=b)):=by
 show some (WB a b)=_;rw[UG]
@[simp]theorem WC (a b:Bool):sH .bool (.bool a) (.bool b)=some (a==b):=by cases a<;>cases b<;>rfl
@[simp]def aah (a:ak) (b c:Int):binop .lss (.int a b) (.int a c)=some (.bool (decide (b<c))):=by
 show gX (Ew a a) (xX (Mo b c))=_;rw[so,xF,iH,r9]
@[simp]def aai (a:ak) (b c:Int):binop .leq (.int a b) (.int a c)=some (.bool (decide (b<=c))):=by
 show gX (Ew a a) (xX (!Mo c b))=_;rw[so,xF,iH,r9];congr 2;rw[bp];simp
@[simp]def aaj (a:ak) (b c:Int):binop .gtr (.int a b) (.int a c)=some (.bool (decide (c<b))):=by
 show gX (Ew a a) (xX (Mo c b))=_;rw[so,xF,iH,r9]
@[simp]def aak (a:ak) (b c:Int):binop .geq (.int a b) (.int a c)=some (.bool (decide (c<=b))):=by
 show gX (Ew a a) (xX (!Mo b c))=_;rw[so,xF,iH,r9];congr 2;rw[bp];simp
def jK{a:Int}(c: -9223372036854775808<=a)(d:a<9223372036854775808):LP .i64 a=a:=by
 cases a with
 |ofNat b=>
  show @Bool.rec (λ_=>Int) _ _ (Nat.ble b 9223372036854775807)=_;rw[cj (by grind)]
 |negSucc b=>
  show @Bool.rec (λ_=>Int) _ _ (Nat.ble b 9223372036854775807)=_;rw[cj J]
def Io{a:Int}(b: -9223372036854775808<=a)(c:a<9223372036854775808):qz .i64 a=some (.int .i64 a):=by
 unfold qz;rw[jK b c,pj]
theorem iz{a b:Int}(c: -9223372036854775808<=a+b)(d:a+b<9223372036854775808):binop .add (.int .i64 a) (.int .i64 b)=some (.int .i64 (a+b)):=Io c d
def kx{a b:Int}(c: -9223372036854775808<=a-b)(d:a-b<9223372036854775808):binop .sub (.int .i64 a) (.int .i64 b)=some (.int .i64 (a-b)):=Io c d
def LC{a b:Nat}(c:a<b)(d:b<9223372036854775808):binop .add (.int .i64 (a:Int)) (.int .i64 1)=some (.int .i64 ((a+1:Nat):Int)):=by
 rw[iz J J];rfl
@[simp]theorem aas (a:Bool):unop .not (.bool a)=some (.bool !a):=by cases a<;>rfl
def Ry{b:Type}(a:List b):kY a=a.length:=j2 a
@[simp]theorem ZU (b:H) (a:List T) (c:Bool):afV b (.dK a c)=some (.val (.int .i64 (a.length:Nat)) b):=by
 show val b (dW (iq (kY a)) λd=>some (.int .i64 (.ofNat d)))=_;rw[Ry,iM];rfl
@[simp]def Z9 (a:List Nat):(T.str a).cells=[.str a]:=id rfl
@[simp]def aab (a:ak) (b:Int):(T.int a b).cells=[.int a b]:=id rfl
@[simp]def YU (a:Bool):(T.bool a).cells=[.bool a]:=id rfl
@[simp]def aad (a:List T):(T.agg a).cells=a:=id rfl
@[simp]def Cy (a b:Nat):Nat.beq a b=decide (a=b):=by
 rw[bp];simp
@[simp]def Vf (a b:Nat):Nat.ble a b=decide (a<=b):=by
 rw[bp];simp
@[simp]def Ve (a b:Nat):Nat.blt a b=decide (a<b):=by
 rw[bp,aJ];simp
@[simp]def acO (a:List Nat):(T.str a).ir=true:=id rfl
@[simp]def acQ (a:ak) (b:Int):(T.int a b).ir=true:=id rfl
@[simp]def Z1 (a:Bool):(T.bool a).ir=true:=id rfl
@[simp]def Z0 (a:List T) (b:Bool):(T.dK a b).ir=true:=id rfl
@[simp]def acS (a:List T):(T.agg a).ir=true:=id rfl
@[simp]theorem ac5 (off:Nat) (b:H) (a:List T):faV off b (.jH a)=dW (j8 off a) λc=>some (lQ.val (.jH c) b):=rfl
@[simp]theorem ZR (c:H) (b:Ty) (a:List T):c.load b (.jH a)=ku b a:=rfl
@[simp]theorem aet {b:Type} (a:List b):j8 0 a=some a:=rfl
@[simp]theorem aes {c:Type} (b:Nat) (d:c) (a:List c):j8 (b+1) (d::a)=j8 b a:=rfl
@[simp]theorem adS {b:Type} (a:List b):takeN 0 a=some []:=rfl
@[simp]theorem adR {d:Type} (b:Nat) (c:d) (a:List d):takeN (b+1) (c::a)=dW (takeN b a) λe=>some (c::e):=rfl
@[simp]theorem Z4 (a:H) (c:List T) (b:Nat):exV a (.tuple c) b=val a (mM c b):=rfl
end
noncomputable section
open Classical in
@[simp]theorem FV:mv []=true:=by unfold mv;rfl
@[simp]def Dx (a:T) (b:List T):mv (a::b)=(nz a&&mv b):=by rw[mv]
@[simp]theorem IV (a:ak) (b:Int):nz (.int a b)=true:=by unfold nz;rfl
@[simp]theorem ZQ (a:Bool):nz (.bool a)=true:=by unfold nz;rfl
@[simp]theorem IU (a:List Nat):nz (.str a)=true:=by unfold nz;rfl
@[simp]theorem ZO:nz .gW=true:=by unfold nz;rfl
@[simp]def ZP (a:List T) (b:Bool):nz (.dK a b)=mv a:=by rw[nz]
@[simp]def IW (a:List T):nz (.agg a)=mv a:=by rw[nz]
def Ol{d:Type}(c:d->T)(e:∀b,nz (c b)=true):∀a:List d,mv (a.map c)=true:=by
 intro a;induction a with
 |nil=>simp
 |cons b a f=>simp[e b,f]
def SL(b:T)(a:List T):Prop:=(b= .gW/\a=[])\/∃c,b= .dK a c
def sl(a:List T):T:=match a with| []=> .gW|x::b=> .dK (x::b) false
def Vo(a:List T)(b:Bool):SL (.dK a b) a:= .inr ⟨b,rfl⟩
def SL.jw{b:T}{a:List T}(d:SL b a)(c:H):c.jw b=some a:=by
 rcases d with⟨rfl,rfl⟩|⟨e,rfl⟩<;>rfl
theorem SL.cells{a:T}{b:List T}(c:SL a b):a.cells=[a]:=by
 rcases c with⟨rfl,rfl⟩|⟨d,rfl⟩<;>rfl
theorem SL.ir{a:T}{b:List T}(c:SL a b):a.ir=true:=by
 rcases c with⟨rfl,rfl⟩|⟨d,rfl⟩<;>rfl
end
noncomputable section
def Hp(a:H):Prop:=a.fG.length=a.size
def Vv{a:H}(c:Hp a)(b:iX):Hp (a.cons b):=by grind [Hp,H.cons]
@[simp]theorem size_cons (a:H) (b:iX):(a.cons b).size=a.size+1:=rfl
def dY(a:H)(b:Nat)(c:iX):H:=(a.put b c).getD a
def Iq{b:H}(i:Hp b){a:Nat}(h:a<b.size)(e:iX):b.put a e=some (dY b a e):=by
 have:∃d,b.put a e=some d:=by
  obtain⟨c,f,j⟩:=b;unfold Hp at i;simp only at i h;show∃d,(gX (Nat.blt a c) (dW (kO j (Nat.sub (Nat.sub c 1) a) e) λg=> @Bool.rec (λ_=>aa H) (some ⟨c,f,g⟩) (some ⟨c,a,g⟩) (Nat.blt a f)))=some d;rw[show Nat.blt a c=true by rw[aJ];exact h,iH,kR,aq (by grind),ed];cases Nat.blt a f<;>exact⟨_,rfl⟩
 obtain⟨d,k⟩:=this;unfold dY;rw[k];rfl
def Kv{b:H}(m:Hp b){a:Nat}(h:a<b.size)(c:iX):Hp (dY b a c)/\(dY b a c).size=b.size/\∀f,(dY b a c).get f=if f=a then some c else b.get f:=by
 have e:=Iq m h c;generalize dY b a c=g at*
 obtain⟨d,j,k⟩:=b;unfold Hp at*
 simp only at m h;have e:(gX (Nat.blt a d) (dW (kO k (Nat.sub (Nat.sub d 1) a) c) λl=> @Bool.rec (λ_=>aa H) (some ⟨d,j,l⟩) (some ⟨d,a,l⟩) (Nat.blt a j)))=some g:=e;rw[show Nat.blt a d=true by rw[aJ];exact h,iH,kR,aq (by grind),ed]at e;have o:g.size=d/\g.fG=k.set (d-1-a) c:=by
  cases hl:Nat.blt a j<;>rw[hl]at e<;>simp only[ar]at e<;>subst e<;>exact⟨rfl,rfl⟩
 obtain⟨i,n⟩:=o;refine⟨by rw[i,n];grind,i,λf=>?_⟩;rw[H.get_eq,H.get_eq,i,n]
 grind
def get_put{b:H}(f:Hp b){c:Nat}(e:c<b.size)(d:iX)(a:Nat):(dY b c d).get a=if a=c then some d else b.get a:=(Kv f e d).2.2 a
@[simp]theorem aep (off:Nat) (c:H) (a b d e:Nat):faV off c (.ptr a b d e)=some (.val (.ptr a b d (e+off)) c):=by
 show(dW (iq (Nat.add e off)) λf=>some (lQ.val (.ptr a b d f) c))=_;rw[iM];rfl
@[simp]theorem Rq (a:H) (b:Nat->T) (c:iX):jL (a.new b c)=some (.val (b a.size) (a.cons c)):=by rw[H.lz];rfl
theorem K0{a:H}(b:Hp a)(f c:T):uG 0 0 f c a=some (c,⟨0,0,[]⟩):=by
 obtain⟨d,e,g⟩:=a;unfold Hp at b;simp only at b;unfold uG;simp only;rw[show Nat.sub d 0=d from rfl,mn,aq J,ed,show Nat.ble 0 e=true by simp]
 grind
def I1{a:H}(e:Hp a){b c:T}(d:jn a 0 b=some c):DA false 0 0 b a=some (c,⟨0,0,[]⟩):=by
 show @Option.rec T (λ_=>aa (T×H)) (nN 0 b a) (λc=>uG 0 0 b c a) (jn a 0 b)=_;rw[d]
 grind [K0]
inductive Vw:T->Prop where
 |bool (b:Bool):Vw (.bool b)
 |int (k:ak) (n:Int):Vw (.int k n)
 |str (s:List Nat):Vw (.str s)
 |dK (es:List T) (f:Bool):Vw (.dK es f)
 |gW:Vw .gW
theorem Vw.freeze{a:T}(d:Vw a)(c:H)(e b:Nat):freeze c e (b+1) a=some a:=by cases d<;>rfl
def tF{c:T->aa T}{a:List T}(d:∀b∈a,c b=some b):fQ c a=some a:=by
 induction a with
 |nil=>rfl
 |cons b h e=>
  rw[jO,d b dy,e λf g=>d f (by grind)];rfl
def adJ(b:T):Prop:=Vw b\/∃a,b= .agg a/\∀c∈a,Vw c
theorem adJ.freeze{e:T}(d:adJ e)(b:H)(c a:Nat):freeze b c (a+2) e=some e:=by
 rcases d with d|⟨f,rfl,g⟩
 ·exact d.freeze b c (a+1)
 ·show(dW (fQ (Go.TI.freeze b c (a+1)) f) λi=>some (T.agg i))=_;rw[tF λj h=>(g j h).freeze b c a];rfl
section
def A2(b:List (Nat×Nat))(c d:Nat):Bool:=b.any λa=>a.1==c&&a.2==d
def lM(a:List (Nat×Nat))(b:Nat):Bool:=a.any λc=>c.1==b
def F5{a:List (Nat×Nat)}{b c:Nat}(h:A2 a b c=true):lM a b=true:=by
 unfold A2 at h;unfold lM;rw[List.any_eq_true]at h|-
 grind
def UY(g:List (Nat×Nat))(c:af Oper):Bool:=
 let f:=LD c.toList []
 let d:=c.toList.zipIdx
 d.all λa=>d.all λb=> !Nat.blt b.2 a.2|| !((tH b.1.op&&iG a.1.op)||(iG b.1.op&&(tH a.1.op||iG a.1.op)))||(f.getD a.2 0).testBit b.2||A2 g b.2 a.2
def D9{j:List (Nat×Nat)}{g:af Oper}(k:UY j g=true){b c:Nat}{f d:Oper}(p:g[b]? =some f)(q:g[c]? =some d)(s:b<c)
 (r:(tH f.op=true/\iG d.op=true)\/(iG f.op=true/\(tH d.op=true\/iG d.op=true))):jT g b c=true\/A2 j b c=true:=by
 unfold UY at k;have m:=List.all_eq_true.1 k (d,c) (mem_zipIdx q);have a:=List.all_eq_true.1 m (f,b) (mem_zipIdx p);have o:Nat.blt b c=true:=by rw[aJ];omega
 simp only[o,Bool.not_true,Bool.false_or,bY,bK]at a;rcases a with(a|a)|a
 ·exfalso;rcases r with⟨l,i⟩|⟨l,i|i⟩<;>simp[l,i]at a
 ·exact .inl a
 grind
def mW(c:List (Nat×Nat))(f b:Nat)(d:List (Nat×H×H)):Prop:=∀a∈d,A2 c a.1 f=true->fh a.2.1 a.2.2 b=true
def wV(b:List (Nat×Nat))(d:Nat)(h c:H)(f:List (Nat×Nat)):Prop:=∀a∈f,A2 b a.1 d=true->fh h c a.2=true
@[simp]def Yc (b:List (Nat×Nat)) (c a:Nat):mW b c a []=True:=by simp[mW]
@[simp]def Wr (b:List (Nat×Nat)) (c a g:Nat) (h f:H) (d:List (Nat×H×H)):mW b c a ((g,h,f)::d)=((A2 b g c=true->fh h f a=true)/\mW b c a d):=by simp[mW]
@[simp]def Z5 (a:List (Nat×Nat)) (c:Nat) (h b:H):wV a c h b []=True:=by simp[wV]
@[simp]def YD (a:List (Nat×Nat)) (c f d:Nat) (h b:H) (g:List (Nat×Nat)):wV a c h b ((f,d)::g)=((A2 a f c=true->fh h b d=true)/\wV a c h b g):=by simp[wV]
open Classical in
def xW(cx:Ctx)(cf:je)(mask:Nat)(g:af Oper)(b:List (Nat×Nat)):List Oper->Nat->List (Nat×Nat)->List (Nat×H×H)->Env->H->aa (Env×H)
 | [],_,_,_,e,h=>some (e,h)
 |o::k,a,f,c,e,h=>dW (lJ cx cf mask g e h o) λm=>two m λj d=>
  dW (kC g mask e o.guard) λr=>
   if r=true then
    if iG o.op=true then
     if wV b a h d f/\(∀p l q i,o.op= .store p l q->dW (fN cx mask e l) dS=some i->mW b a i c)then
      xW cx cf mask g b k (a+1) f (if lM b a=true then(a,h,d)::c else c) j d else none
    else match ij cx mask e h o.op with
     |none=>xW cx cf mask g b k (a+1) f c j d
     |some i=>if mW b a i c then xW cx cf mask g b k (a+1) (if lM b a=true then(a,i)::f else f) c j d else none
   else xW cx cf mask g b k (a+1) f c j d
section
variable {cx:Ctx}{cf:je}{n mask:Nat}
def Ij{o:List (Nat×Nat)}{c:af Oper}(E:UY o c=true):∀(l:List Oper) (b:Nat) (u:List (Nat×Nat)) (r:List (Nat×H×H)) (g:Seen) (e:Env) (h:H) (q:Env×H),(∀m,l[m]? =c[b+m]?)->
 (∀a∈g.mN,a.1<b/\(∃d,c[a.1]? =some d/\tH d.op=true)/\(lM o a.1=true->a∈u))->
 (∀a∈g.kZ,a.1<b/\(∃d,c[a.1]? =some d/\iG d.op=true)/\(lM o a.1=true->a∈r))->
 xW cx cf mask c o l b u r e h=some q->j9 cx cf mask c l b g e h=some q:=by
 intro l;induction l with
 |nil=>intro b u r g e h q _ _ _ f;exact f
 |cons d l I=>
  intro b u r g e h q hl y x f;have F:c[b]? =some d:=by have:=hl 0;grind
  have G:∀m,l[m]? =c[b+1+m]? :=λm=>by
   have:=hl (m+1);simp only[dh]at this;rw[this];grind
  show(dW (lJ cx cf mask c e h d) λa=>two a λp i=>
   dW (kC c mask e d.guard) λU=> @Bool.rec (λ_=>aa (Env×H)) (j9 cx cf mask c l (b+1) g p i)
    (@Bool.rec (λ_=>aa (Env×H))
      (@Option.rec Nat (λ_=>aa (Env×H)) (j9 cx cf mask c l (b+1) g p i)
        (λj=>gX (oM c b j g.kZ) (j9 cx cf mask c l (b+1) ⟨(b,j)::g.mN,g.kZ⟩ p i)) (ij cx mask e h d.op))
      (gX (yg c b h i g.mN) (gX (rI cx mask c b e g.kZ d.op) (j9 cx cf mask c l (b+1) ⟨g.mN,(b,h,i)::g.kZ⟩ p i))) (iG d.op)) U)=some q
  unfold xW at f;obtain⟨⟨p,i⟩,Q,f⟩:=dI.1 f;simp only[kN]at f;obtain⟨T,R,f⟩:=dI.1 f;rw[Q,ed,kN,R,ed];have P:∀a∈g.mN,a.1<b+1/\(∃d,c[a.1]? =some d/\tH d.op=true)/\(lM o a.1=true->a∈u):=λa k=>⟨by have:=(y a k).1;omega,(y a k).2⟩;have M:∀a∈g.kZ,a.1<b+1/\(∃d,c[a.1]? =some d/\iG d.op=true)/\(lM o a.1=true->a∈r):=λa k=>⟨by have:=(x a k).1;omega,(x a k).2⟩;have lk:∀j,(tH d.op=true\/iG d.op=true)->mW o b j r->oM c b j g.kZ=true:=by
   intro j N s;unfold oM;rw[Av,bW];intro a k;obtain⟨A,⟨S,B,C⟩,D⟩:=x a k;show @Bool.rec (λ_=>Bool) (jT c a.1 b) true (fh a.2.1 a.2.2 j)=true;rcases D9 E B F A (.inr ⟨C,N⟩)with z|t
   ·rw[z];cases fh a.2.1 a.2.2 j<;>rfl
   ·rw[s a (D (F5 t)) t]
  cases T with
  |false=>grind
  |true=>
   simp only[bF]at f;cases w:iG d.op with
   |true=>
    rw[w]at f;simp only[bF]at f;split at f
    ·rename_i s;have K:yg c b h i g.mN=true:=by
      unfold yg;rw[Av,bW];intro a k;obtain⟨A,⟨S,B,C⟩,D⟩:=y a k;show @Bool.rec (λ_=>Bool) (jT c a.1 b) true (fh h i a.2)=true;rcases D9 E B F A (.inl ⟨C,w⟩)with z|t
      ·rw[z];cases fh h i a.2<;>rfl
      ·rw[s.1 a (D (F5 t)) t]
     have L:rI cx mask c b e g.kZ d.op=true:=by
      unfold rI;split
      ·rename_i m V Y X;cases W:dW (fN cx mask e V) dS with
       |none=>rfl
       |some j=>grind
      ·rfl
     simp only[K,L,iH];refine I (b+1) _ _ _ p i q G P (λa k=>?_) f
     grind
    grind
   |false=>
    rw[w]at f;simp only[cF,bE]at f;simp only;cases v:ij cx mask e h d.op with
    |none=>rw[v]at f;grind
    |some j=>
     rw[v]at f;simp only at f;split at f
     ·rename_i s;have O:=IX v;simp only[lk j (.inl O) s,iH];refine I (b+1) _ _ _ p i q G (λa k=>?_) M f
      grind
     grind
abbrev DL:=List (Nat×List (Nat×Nat))
def PF(cx:Ctx)(cf:je)(mask:Nat)(dl:DL)(id:Nat)(a:af Oper)(e:Env)(h:H):Out:=
 match dl.lookup id with
 |none=>dW (kG cx cf mask a a.toList ⟨e.vars,.nil⟩ h) λd=>two d λb c=>some (.normal,⟨b.vars,.nil⟩,c)
 |some f=>dW (xW cx cf mask a f a.toList 0 [] [] ⟨e.vars,.nil⟩ h) λd=>two d λb c=>some (.normal,⟨b.vars,.nil⟩,c)
def jB(cx:Ctx)(cf:je)(b mask:Nat)(dl:DL):Code->Env->H->Out
 | .skip=>λe h=>some (.normal,e,h)
 | .region id f _=>PF cx cf mask dl id f
 | .seq c a=>CR (jB cx cf b mask dl c) (jB cx cf b mask dl a)
 | .cond d c a=>Jt cx mask d (jB cx cf b mask dl c) (jB cx cf b mask dl a)
 | .block id a=>yO id (jB cx cf b mask dl a)
 | .loop a=>oQ (jB cx cf b mask dl a) b
 | .exit id=>λe h=>some (.exit id,e,h)
 | .ret=>λe h=>some (.ret,e,h)
 |_=>λ_ _=>none
def nc(dl:DL):Code->Bool
 | .region id d c=>(match dl.lookup id with|none=> !c||LY d|some f=>c&&UY f d)
 | .seq a b=>nc dl a&&nc dl b
 | .cond _ a b=>nc dl a&&nc dl b
 | .block _ a=>nc dl a
 | .loop a=>nc dl a
 |_=>true
def qQ{dl:DL}:∀(o:Code),nc dl o=true->∀e h b,jB cx cf n mask dl o e h=some b->kc cx cf n mask o e h=some b:=by
 intro o;induction o with
 |region id j x=>
  intro c e h b a;obtain⟨s,D⟩:=e;replace a:PF cx cf mask dl id j ⟨s,D⟩ h=some b:=a;unfold PF at a;simp only[nc]at c;cases hl:dl.lookup id with
  |none=>
   rw[hl]at a c;simp only at a c;cases x with
   |false=>exact a
   |true=>
    simp only[Bool.not_true,Bool.false_or]at c;show(dW (j9 cx cf mask j j.toList 0 ⟨[],[]⟩ ⟨s,.nil⟩ h) λb=>two b λf g=>some (Ex.normal,(⟨f.vars,.nil⟩:Env),g))=some b;rw[Gv c j.toList 0 ⟨[],[]⟩ ⟨s,.nil⟩ h (λu=>by simp) (λl q=>by grind) (λl q=>by grind)];exact a
  |some F=>
   rw[hl]at a c;simp only[ax]at a c;obtain⟨rfl,c⟩:=c;obtain⟨l,q,a⟩:=dI.1 a;show(dW (j9 cx cf mask j j.toList 0 ⟨[],[]⟩ ⟨s,.nil⟩ h) λb=>two b λf g=>some (Ex.normal,(⟨f.vars,.nil⟩:Env),g))=some b;rw[Ij c j.toList 0 [] [] ⟨[],[]⟩ ⟨s,.nil⟩ h l (λu=>by simp) (λl q=>by grind) (λl q=>by grind) q,ed];exact a
 |seq d m v B=>
  intro c e h b a;simp only[nc,ax]at c;have a:CR (jB cx cf n mask dl d) (jB cx cf n mask dl m) e h=some b:=a;show CR (kc cx cf n mask d) (kc cx cf n mask m) e h=some b;unfold CR at*
  obtain⟨⟨k,y,z⟩,p,a⟩:=dI.1 a;rw[v c.1 e h _ p,ed];simp only[ma]at*
  cases k with
  |normal=>grind
  |exit r=>exact a
  |ret=>exact a
 |cond w d m v B=>
  intro c e h b a;simp only[nc,ax]at c;have a:Jt cx mask w (jB cx cf n mask dl d) (jB cx cf n mask dl m) e h=some b:=a;show Jt cx mask w (kc cx cf n mask d) (kc cx cf n mask m) e h=some b;unfold Jt at*
  obtain⟨E,A,a⟩:=dI.1 a;rw[A,ed];cases E<;>first|exact a|skip
  rename_i u;cases u with
  |true=>grind
  |false=>grind
 |block id d t=>
  intro c e h b a;simp only[nc]at c;have a:yO id (jB cx cf n mask dl d) e h=some b:=a;show yO id (kc cx cf n mask d) e h=some b;unfold yO at*
  obtain⟨l,p,a⟩:=dI.1 a;rw[t c e h _ p,ed];exact a
 |loop d t=>
  intro c e h b a;simp only[nc]at c;have C:∀i e h b,oQ (jB cx cf n mask dl d) i e h=some b->oQ (kc cx cf n mask d) i e h=some b:=by
   intro i;induction i with
   |zero=>simp[oQ]
   |succ i G=>
    intro e h b a;have a:(dW (jB cx cf n mask dl d e h) λb=>three b λk f g=> @Ex.rec (λ_=>Out) (oQ (jB cx cf n mask dl d) i f g) (λr=>some (.exit r,f,g)) (some (.ret,f,g)) k)=some b:=a;show(dW (kc cx cf n mask d e h) λb=>three b λk f g=> @Ex.rec (λ_=>Out) (oQ (kc cx cf n mask d) i f g) (λr=>some (.exit r,f,g)) (some (.ret,f,g)) k)=some b;obtain⟨⟨k,y,z⟩,p,a⟩:=dI.1 a;rw[t c e h _ p,ed];simp only[ma]at*
    cases k with
    |normal=>grind
    |exit r=>exact a
    |ret=>exact a
  exact C n e h b a
 |_=>intro _ e h b a;first|exact a|(simp[jB]at a)
def WR(cx:Ctx)(cf:je)(mask:Nat)(f:af Oper)(d:List Oper)(i g:fZ)(h:H)(c:fZ->H->Prop):Prop:=
 ∃a b,kG cx cf mask f d ⟨i,g⟩ h=some (a,b)/\c a.vars b
def WX(c:aa (T×H))(b:T->H->Prop):Prop:=∃a h,c=some (a,h)/\b a h
@[simp]def Ax (b:T) (h:H) (d:T->H->Prop):WX (some (b,h)) d=d b h:=by
 apply propext;constructor
 ·rintro⟨g,f,c,a⟩;simp only[ar,aB]at c;obtain⟨rfl,rfl⟩:=c;exact a
 ·exact λa=>⟨b,h,rfl,a⟩
def WD(mask:Nat)(g:aa Tmp)(f:T)(d c:fZ)(a:fZ->fZ->Prop):Prop:=match g with
 |none=>a d c
 |some b=>if kq mask b=true then a (put d b f) c else a d (.cons b f c)
def DB(a b:Nat):(kq a b=true)=((a>>>b)&&&1=1):=by
 apply propext;show Nat.beq ((a>>>b)&&&1) 1=true↔_;exact⟨aF,λh=>by rw[h];rfl⟩
def HZ(a:Tmp)(d:T)(f c:fZ)(b:fZ->fZ->Prop):WD mask (some a) d f c b=if(mask>>>a)&&&1=1 then b (put f a d) c else b f (.cons a d c):=by
 simp[WD,DB]
def S9(i:af Oper)(a b:fZ)(h:H)(c:fZ->H->Prop):WR cx cf mask i [] a b h c=c a h:=by
 apply propext;constructor
 ·rintro⟨e,g,d,f⟩;have d:some ((⟨a,b⟩:Env),h)=some (e,g):=d
  grind
 ·exact λf=>⟨⟨a,b⟩,h,rfl,f⟩
def HY(l:af Oper)(k:Oper)(j:List Oper)(b a:fZ)(h:H)(q:fZ->H->Prop):
 WR cx cf mask l (k::j) b a h q=WX (yZ cx cf mask l ⟨b,a⟩ h k) λc d=>WD mask k.dst c b a λb a=>WR cx cf mask l j b a d q:=by
 have u:∀c d,(∃f,Env.dst mask ⟨b,a⟩ k.dst c=some f/\WR cx cf mask l j f.vars f.tmps d q)↔WD mask k.dst c b a λb a=>WR cx cf mask l j b a d q:=by
  intro c d;cases x:k.dst with
  |none=>
   constructor
   ·rintro⟨f,g,p⟩;have g:some (⟨b,a⟩:Env)=some f:=g;simp only[ar]at g;subst g;exact p
   ·exact λp=>⟨_,rfl,p⟩
  |some m=>
   have hE:Env.dst mask ⟨b,a⟩ (some m) c=some (if kq mask m=true then⟨put b m c,a⟩else⟨b,.cons m c a⟩):=by
    show @Bool.rec (λ_=>aa Env) (some ⟨b,.cons m c a⟩) (dW (mc b m c) λj=>some ⟨j,a⟩) (kq mask m)=_;rw[pU];cases kq mask m<;>rfl
   rw[hE];unfold WD;simp only[ar,exists_eq_left'];split<;>rfl
 apply propext;have v:kG cx cf mask l (k::j) ⟨b,a⟩ h=dW (lJ cx cf mask l ⟨b,a⟩ h k) λw=>two w λo d=>kG cx cf mask l j o d:=rfl;unfold WR;rw[v,rJ];constructor
 ·rintro⟨o,d,i,s⟩;have⟨⟨c,r⟩,t,i⟩:=dI.1 i;simp only[kN]at i;have⟨f,g,i⟩:=dI.1 i;exact⟨c,r,t,(u c r).1 ⟨f,g,o,d,i,s⟩⟩
 ·rintro⟨c,r,t,p⟩;have⟨f,g,o,d,i,s⟩:=(u c r).2 p;refine⟨o,d,?_,s⟩;rw[t,ed,kN,g,ed];exact i
def adz(f:af Oper)(g:aa Tmp)(i:Op)(m:ab)(l:String)(j:af Edge)(d:List Oper)(b a:fZ)(h:H)(c:fZ->H->Prop):
 WR cx cf mask f (⟨g,i,m,l,j,none⟩::d) b a h c=WX (fin cf h (jr i cx mask ⟨b,a⟩ h)) λo k=>WD mask g o b a λb a=>WR cx cf mask f d b a k c:=HY f _ d b a h c
def WG(c:aa Bool)(a b:Prop):Prop:=match c with|some true=>a|some false=>b|none=>False
def M9(a b:Prop):WG (some true) a b=a:=rfl
def JR(b a:Prop):WG (some false) b a=a:=rfl
def Ta(c:af Oper)(i:aa Tmp)(k:Op)(q:ab)(p:String)(o:af Edge)(f:Nat)(d:Bool)(j:List Oper)(b a:fZ)(h:H)(g:fZ->H->Prop):
 WR cx cf mask c (⟨i,k,q,p,o,some (f,d)⟩::j) b a h g=WG (kC c mask ⟨b,a⟩ (some (f,d)))
  (WX (fin cf h (jr k cx mask ⟨b,a⟩ h)) λm l=>WD mask i m b a λb a=>WR cx cf mask c j b a l g)
  (WD mask i .undef b a λb a=>WR cx cf mask c j b a h g):=by
 rw[HY];show WX (dW (kC c mask ⟨b,a⟩ (some (f,d))) λs=> @Bool.rec (λ_=>aa (T×H)) (some (.undef,h)) (fin cf h (jr k cx mask ⟨b,a⟩ h)) s) _=_;cases kC c mask ⟨b,a⟩ (some (f,d))with
 |none=>apply propext;constructor<;>(first|(rintro⟨m,l,t,_⟩;simp_all)|exact False.elim)
 |some r=>cases r<;>simp[M9,JR]
def LS(a:aa T)(b:Bool):aa Bool:=dW a λa=>match a with| .bool c=>some (c==b)|_=>some false
@[simp]theorem CE (b a:Bool):LS (some (.bool b)) a=some (b==a):=rfl
@[simp]theorem VB (a:Bool):LS (some .undef) a=some false:=rfl
@[simp]def CF (d:List Oper) (e:Env) (c:Nat) (f:Bool):kC d.toArray mask e (some (c,f))=LS (dW (dW (d[c]?) λb=>b.dst) λa=>e.get mask a) f:=by
 show(dW (dW (dW (mM d.toArray.toList c) λb=>b.dst) λa=>e.get mask a) λg=>_)=_;rw[kP];unfold LS;simp only;cases (dW (dW (d[c]?) λb=>b.dst) λa=>e.get mask a)with
 |none=>rfl
 |some g=>cases g<;>first|rfl|(rename_i i;cases i<;>cases f<;>rfl)
@[simp]theorem Co (c b:fZ) (a:Nat):Env.get mask ⟨c,b⟩ a=if(mask>>>a)&&&1=1 then dL c a else dL b a:=by
 show @Bool.rec (λ_=>aa T) (dL b a) (dL c a) (kq mask a)=_;simp only[<-DB];cases kq mask a<;>rfl
def LH(cx:Ctx)(cf:je)(mask:Nat)(k:af Oper)(d:List (Nat×Nat))(i:List Oper)(g:Nat)(j:List (Nat×Nat))(f:List (Nat×H×H))(m l:fZ)(h:H)(c:fZ->H->Prop):Prop:=
 ∃a b,xW cx cf mask k d i g j f ⟨m,l⟩ h=some (a,b)/\c a.vars b
def M8(m:af Oper)(g:List (Nat×Nat))(k:Nat)(l:List (Nat×Nat))(i:List (Nat×H×H))(a b:fZ)(h:H)(c:fZ->H->Prop):LH cx cf mask m g [] k l i a b h c=c a h:=by
 apply propext;constructor
 ·rintro⟨e,j,d,f⟩;have d:some ((⟨a,b⟩:Env),h)=some (e,j):=d
  grind
 ·exact λf=>⟨⟨a,b⟩,h,rfl,f⟩
def DK(cx:Ctx)(mask:Nat)(d:List (Nat×Nat))(a:Nat)(f:List (Nat×Nat))(b:List (Nat×H×H))(i:Op)(e:Env)(h j:H)(g:List (Nat×Nat)->List (Nat×H×H)->Prop):Prop:=
 if iG i=true then(wV d a h j f/\(∀l k m c,i= .store l k m->dW (fN cx mask e k) dS=some c->mW d a c b))/\g f (if lM d a=true then(a,h,j)::b else b)
 else match ij cx mask e h i with
  |none=>g f b
  |some c=>mW d a c b/\g (if lM d a=true then(a,c)::f else f) b
def JQ(u:af Oper)(y:List (Nat×Nat))(i:Oper)(x:List Oper)(z:Nat)(q:List (Nat×Nat))(o:List (Nat×H×H))(b a:fZ)(h:H)(A:fZ->H->Prop):
 LH cx cf mask u y (i::x) z q o b a h A=WG (kC u mask ⟨b,a⟩ i.guard)
  (WX (fin cf h (jr i.op cx mask ⟨b,a⟩ h)) λj c=>DK cx mask y z q o i.op ⟨b,a⟩ h c λq o=>WD mask i.dst j b a λb a=>LH cx cf mask u y x (z+1) q o b a c A)
  (WD mask i.dst .undef b a λb a=>LH cx cf mask u y x (z+1) q o b a h A):=by
 have t:∀j c (q:List (Nat×Nat)) (o:List (Nat×H×H)),(∃g,Env.dst mask ⟨b,a⟩ i.dst j=some g/\LH cx cf mask u y x (z+1) q o g.vars g.tmps c A)↔WD mask i.dst j b a λb a=>LH cx cf mask u y x (z+1) q o b a c A:=by
  intro j c q o;cases K:i.dst with
  |none=>
   constructor
   ·rintro⟨g,f,r⟩;have f:some (⟨b,a⟩:Env)=some g:=f;simp only[ar]at f;subst f;exact r
   ·exact λr=>⟨_,rfl,r⟩
  |some v=>
   have hE:Env.dst mask ⟨b,a⟩ (some v) j=some (if kq mask v=true then⟨put b v j,a⟩else⟨b,.cons v j a⟩):=by
    show @Bool.rec (λ_=>aa Env) (some ⟨b,.cons v j a⟩) (dW (mc b v j) λx=>some ⟨x,a⟩) (kq mask v)=_;rw[pU];cases kq mask v<;>rfl
   rw[hE];unfold WD;simp only[ar,exists_eq_left'];split<;>rfl
 apply propext;constructor
 ·rintro⟨l,c,p,m⟩;unfold xW at p;rw[rJ]at p;obtain⟨⟨j,D⟩,s,E⟩:=dI.1 p;simp only[kN]at E;obtain⟨g,f,F⟩:=dI.1 E;obtain⟨C,r,k⟩:=dI.1 F;clear p E F;unfold yZ at s;rw[r,ed]at s;rw[r];cases C with
  |false=>
   replace s:some (T.undef,h)=some (j,D):=s;simp only[ar,aB]at s;obtain⟨rfl,rfl⟩:=s;simp only[cF,bE]at k;exact(t _ _ q o).1 ⟨g,f,l,c,k,m⟩
  |true=>
   simp only[bF]at k;refine⟨j,D,s,?_⟩;unfold DK;split
   ·rename_i hE;rw[aq hE]at k;split at k
    ·rename_i w;exact⟨w,(t _ _ _ _).1 ⟨g,f,l,c,k,m⟩⟩
    grind
   ·rename_i hE;rw[ao hE]at k;cases B:ij cx mask ⟨b,a⟩ h i.op with
    |none=>rw[B]at k;exact(t _ _ _ _).1 ⟨g,f,l,c,k,m⟩
    |some I=>
     rw[B]at k;simp only at k;split at k
     ·rename_i w;exact⟨w,(t _ _ _ _).1 ⟨g,f,l,c,k,m⟩⟩
     grind
 ·intro d;unfold LH xW;rw[rJ];cases r:kC u mask ⟨b,a⟩ i.guard with
  |none=>rw[r]at d;exact d.elim
  |some C=>
   rw[r]at d;have G:yZ cx cf mask u ⟨b,a⟩ h i= @Bool.rec (λ_=>aa (T×H)) (some (.undef,h)) (fin cf h (jr i.op cx mask ⟨b,a⟩ h)) C:=by
    unfold yZ;rw[r,ed]
   cases C with
   |false=>
    obtain⟨g,f,l,c,p,m⟩:=(t _ _ q o).2 d;refine⟨l,c,?_,m⟩;rw[G];simp_all
   |true=>
    obtain⟨j,D,s,d⟩:=d;rw[G];simp only[s,ed,kN,bF];unfold DK at d;split at d
    ·rename_i hE;obtain⟨w,d⟩:=d;obtain⟨g,f,l,c,p,m⟩:=(t _ _ _ _).2 d;refine⟨l,c,?_,m⟩;rw[f,ed,aq hE,aq w];exact p
    ·rename_i hE;cases B:ij cx mask ⟨b,a⟩ h i.op with
     |none=>
      rw[B]at d;obtain⟨g,f,l,c,p,m⟩:=(t _ _ _ _).2 d;refine⟨l,c,?_,m⟩;rw[f,ed,ao hE];exact p
     |some I=>
      rw[B]at d;obtain⟨w,d⟩:=d;obtain⟨g,f,l,c,p,m⟩:=(t _ _ _ _).2 d;refine⟨l,c,?_,m⟩;rw[f,ed,ao hE];simp only;rw[aq w];exact p
def Ze(l:af Oper)(f:List (Nat×Nat))(m:aa Tmp)(k:Op)(r:ab)(q:String)(p:af Edge)(j:List Oper)(g:Nat)(d:List (Nat×Nat))(c:List (Nat×H×H))(b a:fZ)(h:H)(i:fZ->H->Prop):
 LH cx cf mask l f (⟨m,k,r,q,p,none⟩::j) g d c b a h i=
  WX (fin cf h (jr k cx mask ⟨b,a⟩ h)) λs o=>DK cx mask f g d c k ⟨b,a⟩ h o λd c=>WD mask m s b a λb a=>LH cx cf mask l f j (g+1) d c b a o i:=JQ l f _ j g d c b a h i
def RK(cx:Ctx)(cf:je)(mask:Nat)(d:af Oper)(c:List Oper)(a f:fZ)(h:H)(b:iR):Prop:=WR cx cf mask d c a f h λa h=>b.n ⟨a,.nil⟩ h
def XK(k:aa (T×H))(cx:Ctx)(cf:je)(mask:Nat)(i:af Oper)(d:aa Tmp)(g:List Oper)(b a:fZ)(c:iR):Prop:=WX k λj f=>WD mask d j b a λb a=>RK cx cf mask i g b a f c
def GK(j:aa Bool)(cx:Ctx)(cf:je)(mask:Nat)(g:af Oper)(d:aa Tmp)(i:Op)(f:List Oper)(b a:fZ)(h:H)(c:iR):Prop:=
 WG j (XK (fin cf h (jr i cx mask ⟨b,a⟩ h)) cx cf mask g d f b a c) (WD mask d .undef b a λb a=>RK cx cf mask g f b a h c)
@[simp]def agz (c:af Oper) (a d:fZ) (h:H) (b:iR):RK cx cf mask c [] a d h b=b.n ⟨a,.nil⟩ h:=S9 c a d h _
@[simp]def ag5 (g:af Oper) (c:aa Tmp) (f:Op) (l:ab) (k:String) (j:af Edge) (d:List Oper) (b a:fZ) (h:H) (i:iR):
 RK cx cf mask g (⟨c,f,l,k,j,none⟩::d) b a h i=XK (fin cf h (jr f cx mask ⟨b,a⟩ h)) cx cf mask g c d b a i:=adz g c f l k j d b a h _
@[simp]def eY (a:af Oper) (f:aa Tmp) (j:Op) (o:ab) (m:String) (l:af Edge) (g:Nat) (d:Bool) (i:List Oper) (c b:fZ) (h:H) (k:iR):
 RK cx cf mask a (⟨f,j,o,m,l,some (g,d)⟩::i) c b h k=GK (kC a mask ⟨c,b⟩ (some (g,d))) cx cf mask a f j i c b h k:=Ta a f j o m l g d i c b h _
@[simp]theorem aeL (g:T) (h:H) (c:af Oper) (b:List Oper) (f d:fZ) (a:iR):XK (some (g,h)) cx cf mask c none b f d a=RK cx cf mask c b f d h a:=by
 unfold XK;rw[Ax];rfl
@[simp]def aeK (g:T) (h:H) (d:af Oper) (a:Tmp) (c:List Oper) (i f:fZ) (b:iR):XK (some (g,h)) cx cf mask d (some a) c i f b=
 if(mask>>>a)&&&1=1 then RK cx cf mask d c (put i a g) f h b else RK cx cf mask d c i (.cons a g f) h b:=by
 unfold XK;rw[Ax,HZ]
@[simp]def aeW (i:af Oper) (d:aa Tmp) (g:Op) (f:List Oper) (b a:fZ) (h:H) (c:iR):GK (some true) cx cf mask i d g f b a h c=XK (fin cf h (jr g cx mask ⟨b,a⟩ h)) cx cf mask i d f b a c:=id rfl
@[simp]def adG (g:af Oper) (c:Tmp) (i:Op) (f:List Oper) (b a:fZ) (h:H) (d:iR):GK (some false) cx cf mask g (some c) i f b a h d=if(mask>>>c)&&&1=1 then RK cx cf mask g f (put b c .undef) a h d else RK cx cf mask g f b (.cons c .undef a) h d:=by
 show WD mask (some c) .undef b a (λb a=>RK cx cf mask g f b a h d)=_;rw[HZ]
def Pr(cx:Ctx)(mask:Nat)(b:List (Nat×Nat))(d:Nat)(c:List (Nat×H×H))(f:Op)(e:Env):Prop:=match f with
 | .store _ g _=>(match dW (fN cx mask e g) dS with|some a=>mW b d a c|none=>True)
 |_=>True
def SK(b:List (Nat×Nat))(d:Nat)(c:List (Nat×H×H))(f:aa Nat):Prop:=match f with|some a=>mW b d a c|none=>True
@[simp]def Y8 (a:List (Nat×Nat)) (c:Nat) (b:List (Nat×H×H)):SK a c b none=True:=id rfl
@[simp]def Y7 (b:List (Nat×Nat)) (d:Nat) (c:List (Nat×H×H)) (a:Nat):SK b d c (some a)=mW b d a c:=id rfl
@[simp]def CM (a:List (Nat×Nat)) (c:Nat) (b:List (Nat×H×H)) (f:ab) (d g:ah) (e:Env):Pr cx mask a c b (.store f d g) e=SK a c b (dW (fN cx mask e d) dS):=id rfl
@[simp]def Zv (b:List (Nat×Nat)) (d:Nat) (c:List (Nat×H×H)) (a:Call) (e:Env):Pr cx mask b d c (.call a) e=True:=id rfl
def Vy(cx:Ctx)(cf:je)(mask:Nat)(j:af Oper)(c:List (Nat×Nat))(g:List Oper)(f:Nat)(i:List (Nat×Nat))(d:List (Nat×H×H))(a k:fZ)(h:H)(b:iR):Prop:=LH cx cf mask j c g f i d a k h λa h=>b.n ⟨a,.nil⟩ h
def Tk(q:aa (T×H))(cx:Ctx)(cf:je)(mask:Nat)(o:af Oper)(f:List (Nat×Nat))(k:aa Tmp)(m:Op)(l:List Oper)(i:Nat)(d:List (Nat×Nat))(c:List (Nat×H×H))(b a:fZ)(h:H)(j:iR):Prop:=
 WX q λp g=>DK cx mask f i d c m ⟨b,a⟩ h g λd c=>WD mask k p b a λb a=>Vy cx cf mask o f l (i+1) d c b a g j
def TC(m:T)(cx:Ctx)(cf:je)(mask:Nat)(l:af Oper)(d:List (Nat×Nat))(f:aa Tmp)(j:List Oper)(i:Nat)(k:List (Nat×Nat))(g:List (Nat×H×H))(b a:fZ)(h:H)(c:iR):Prop:=WD mask f m b a λb a=>Vy cx cf mask l d j i k g b a h c
def DLK(p:aa Nat)(m:T)(cx:Ctx)(cf:je)(mask:Nat)(k:af Oper)(b:List (Nat×Nat))(i:aa Tmp)(j:List Oper)(a:Nat)(d:List (Nat×Nat))(c:List (Nat×H×H))(o l:fZ)(h:H)(f:iR):Prop:=match p with
 |none=>TC m cx cf mask k b i j (a+1) d c o l h f
 |some g=>mW b a g c/\TC m cx cf mask k b i j (a+1) (if lM b a=true then(a,g)::d else d) c o l h f
@[simp]def adN (l:T) (j:af Oper) (b:List (Nat×Nat)) (c:aa Tmp) (g:List Oper) (f:Nat) (i:List (Nat×Nat)) (d:List (Nat×H×H)) (m k:fZ) (h:H) (a:iR):DLK none l cx cf mask j b c g f i d m k h a=TC l cx cf mask j b c g (f+1) i d m k h a:=id rfl
@[simp]def Tl (c:Nat) (m:T) (k:af Oper) (b:List (Nat×Nat)) (i:aa Tmp) (j:List Oper) (a:Nat) (f:List (Nat×Nat)) (d:List (Nat×H×H)) (o l:fZ) (h:H) (g:iR):DLK (some c) m cx cf mask k b i j a f d o l h g=(mW b a c d/\TC m cx cf mask k b i j (a+1) (if lM b a=true then(a,c)::f else f) d o l h g):=id rfl
@[simp]def adM (l:T) (i:af Oper) (b:List (Nat×Nat)) (f:List Oper) (d:Nat) (g:List (Nat×Nat)) (c:List (Nat×H×H)) (k j:fZ) (h:H) (a:iR):TC l cx cf mask i b none f d g c k j h a=Vy cx cf mask i b f d g c k j h a:=id rfl
@[simp]def adL (l:T) (j:af Oper) (c:List (Nat×Nat)) (a:Tmp) (g:List Oper) (f:Nat) (i:List (Nat×Nat)) (d:List (Nat×H×H)) (m k:fZ) (h:H) (b:iR):TC l cx cf mask j c (some a) g f i d m k h b=
 if(mask>>>a)&&&1=1 then Vy cx cf mask j c g f i d (put m a l) k h b else Vy cx cf mask j c g f i d m (.cons a l k) h b:=by unfold TC;rw[HZ]
@[simp]def ae3 (i:af Oper) (c:List (Nat×Nat)) (f:Nat) (g:List (Nat×Nat)) (d:List (Nat×H×H)) (a j:fZ) (h:H) (b:iR):Vy cx cf mask i c [] f g d a j h b=b.n ⟨a,.nil⟩ h:=M8 i c f g d a j h _
@[simp]def agD (l:af Oper) (d:List (Nat×Nat)) (f:aa Tmp) (a:Op) (q:ab) (p:String) (o:af Edge) (j:List Oper) (i:Nat) (k:List (Nat×Nat)) (g:List (Nat×H×H)) (c b:fZ) (h:H) (m:iR):
 Vy cx cf mask l d (⟨f,a,q,p,o,none⟩::j) i k g c b h m=Tk (fin cf h (jr a cx mask ⟨c,b⟩ h)) cx cf mask l d f a j i k g c b h m:=Ze l d f a q p o j i k g c b h _
def DEK(q:Bool)(p:T)(d:H)(cx:Ctx)(cf:je)(mask:Nat)(o:af Oper)(b:List (Nat×Nat))(k:aa Tmp)(m:Op)(l:List Oper)(a:Nat)(i:List (Nat×Nat))(c:List (Nat×H×H))(g f:fZ)(h:H)(j:iR):Prop:=match q with
 |true=>(wV b a h d i/\Pr cx mask b a c m ⟨g,f⟩)/\TC p cx cf mask o b k l (a+1) i (if lM b a=true then(a,h,d)::c else c) g f d j
 |false=>DLK (ij cx mask ⟨g,f⟩ h m) p cx cf mask o b k l a i c g f d j
@[simp]def Tm (p:T) (d:H) (o:af Oper) (b:List (Nat×Nat)) (k:aa Tmp) (m:Op) (l:List Oper) (a:Nat) (f:List (Nat×Nat)) (c:List (Nat×H×H)) (i g:fZ) (h:H) (j:iR):DEK true p d cx cf mask o b k m l a f c i g h j=((wV b a h d f/\Pr cx mask b a c m ⟨i,g⟩)/\TC p cx cf mask o b k l (a+1) f (if lM b a=true then(a,h,d)::c else c) i g d j):=id rfl
@[simp]def O0 (p:T) (i:H) (o:af Oper) (d:List (Nat×Nat)) (f:aa Tmp) (m:Op) (k:List Oper) (j:Nat) (l:List (Nat×Nat)) (g:List (Nat×H×H)) (b a:fZ) (h:H) (c:iR):DEK false p i cx cf mask o d f m k j l g b a h c=DLK (ij cx mask ⟨b,a⟩ h m) p cx cf mask o d f k j l g b a i c:=id rfl
@[simp]theorem adK (c:T) (q:H) (u:af Oper) (i:List (Nat×Nat)) (p:aa Tmp) (a:Op) (s:List Oper) (k:Nat) (t:List (Nat×Nat)) (j:List (Nat×H×H)) (d b:fZ) (h:H) (o:iR):
 Tk (some (c,q)) cx cf mask u i p a s k t j d b h o=DEK (iG a) c q cx cf mask u i p a s k t j d b h o:=by
 unfold Tk;rw[Ax];unfold DK;cases hE:iG a with
 |true=>
  rw[aq rfl,Tm];have:(∀m f c g,a= .store m f c->dW (fN cx mask ⟨d,b⟩ f) dS=some g->mW i k g j)↔Pr cx mask i k j a ⟨d,b⟩:=by
   constructor
   ·intro l;cases a<;>first|exact trivial|skip
    rename_i m f c;rw[CM];cases r:dW (fN cx mask ⟨d,b⟩ f) dS with
    |none=>simp
    |some g=>simp_all
   ·intro l m f c g v r;subst v;rw[CM,r]at l;exact l
  rw[this];rfl
 |false=>
  rw[ao dy,O0];cases ij cx mask ⟨d,b⟩ h a<;>rfl
section
variable (e:Env)(h:H)
@[simp]def Wt (a:ab) (c b:ah):iG (.store a c b)=true:=id rfl
@[simp]def Wu (b:ah) (a:af ah) (c:af ab):iG (.call ⟨.value b,a,c⟩)=true:=id rfl
@[simp]def Wv (a:Builtin) (b:af ah) (c:af ab):iG (.call ⟨.builtin a,b,c⟩)=(match a with| .len| .min| .max=>false|_=>true):=id rfl
@[simp]def Yi (a:ah):iG (.move a)=false:=id rfl
@[simp]def Ux (a:ah):iG (.assign a)=false:=id rfl
@[simp]def Yj (a:ab) (b:ah):iG (.load a b)=false:=id rfl
@[simp]def acB (a:ah):iG (.nilCheck a)=false:=id rfl
@[simp]def acF (b:ab) (c:ah) (a:Nat):iG (.fieldAddr b c a)=false:=id rfl
@[simp]def acE (a:ab) (b c:ah):iG (.indexAddr a b c)=false:=id rfl
@[simp]def ZW (a:BinOp) (b c:ab) (d f:ah):iG (.binOp a b d f c)=false:=id rfl
@[simp]def Wx (a:ab):iG (.alloc a)=false:=id rfl
@[simp]def Ww (b:ab) (a:af (Nat×ah)):iG (.build b a)=false:=id rfl
@[simp]def acH (b:ab) (n:Nat) (a:af (Nat×ah)):iG (.buildSlice b n a)=false:=id rfl
@[simp]def acC (a:ab) (b c:ah):iG (.makeSlice a b c)=false:=id rfl
@[simp]def acA (d:ab) (f:ah) (a b c:aa ah):iG (.slice d f a b c)=false:=id rfl
@[simp]def acG (b:ah) (a:Nat):iG (.extract b a)=false:=id rfl
@[simp]def acD (c:Fn) (a b:af ah):iG (.makeFunc c a b)=false:=id rfl
@[simp]def ad9 (b:ab) (a:ah):ij cx mask e h (.load b a)=dW (fN cx mask e a) dS:=id rfl
@[simp]def agZ (b:ab) (a c:ah):ij cx mask e h (.indexAddr b a c)=dW (fN cx mask e a) dS:=id rfl
@[simp]def agV (f:ab) (a:ah) (b c d:aa ah):ij cx mask e h (.slice f a b c d)=dW (fN cx mask e a) dS:=id rfl
@[simp]def acv (a:ab):ij cx mask e h (.alloc a)=some h.size:=id rfl
@[simp]def ag2 (b:ab) (n:Nat) (a:af (Nat×ah)):ij cx mask e h (.buildSlice b n a)=some h.size:=id rfl
@[simp]def agX (a:ab) (b c:ah):ij cx mask e h (.makeSlice a b c)=some h.size:=id rfl
@[simp]def ad8 (a:ah):ij cx mask e h (.move a)=none:=id rfl
@[simp]def ZV (a:ah):ij cx mask e h (.assign a)=none:=id rfl
@[simp]def agW (a:ah):ij cx mask e h (.nilCheck a)=none:=id rfl
@[simp]def ag0 (b:ab) (c:ah) (a:Nat):ij cx mask e h (.fieldAddr b c a)=none:=id rfl
@[simp]def afW (a:BinOp) (b c:ab) (d f:ah):ij cx mask e h (.binOp a b d f c)=none:=id rfl
@[simp]def acu (b:ab) (a:af (Nat×ah)):ij cx mask e h (.build b a)=none:=id rfl
@[simp]def ag1 (b:ah) (a:Nat):ij cx mask e h (.extract b a)=none:=id rfl
@[simp]def aea (a:Call):ij cx mask e h (.call a)=none:=id rfl
@[simp]def agY (c:Fn) (a b:af ah):ij cx mask e h (.makeFunc c a b)=none:=id rfl
@[simp]def aaf (a b c d:Nat):dS (.ptr a b c d)=some a:=id rfl
@[simp]theorem Bk (a b f d:Nat) (c:Bool):dS (.arr a b f d c)=some a:=id rfl
@[simp]def Y4 (a:List T) (b:Bool):dS (.dK a b)=none:=id rfl
@[simp]def Y5 (a:List T):dS (.jH a)=none:=id rfl
@[simp]def aag (a:ak) (n:Int):dS (.int a n)=none:=id rfl
end
variable {dl:DL}
def QK(cx:Ctx)(cf:je)(mask:Nat)(a:List Oper)(f:aa (List (Nat×Nat)))(c:fZ)(h:H)(b:iR):Prop:=match f with
 |none=>RK cx cf mask a.toArray a c .nil h b
 |some d=>Vy cx cf mask a.toArray d a 0 [] [] c .nil h b
@[simp]def aeU (a:List Oper) (c:fZ) (h:H) (b:iR):QK cx cf mask a none c h b=RK cx cf mask a.toArray a c .nil h b:=id rfl
@[simp]def aeS (a:List Oper) (c:List (Nat×Nat)) (d:fZ) (h:H) (b:iR):QK cx cf mask a (some c) d h b=Vy cx cf mask a.toArray c a 0 [] [] d .nil h b:=id rfl
def WO(c:aa (Env×H))(d:iR):W (dW c λg=>two g λb a=>some (.normal,(⟨b.vars,.nil⟩:Env),a)) d=∃b a,c=some (b,a)/\d.n ⟨b.vars,.nil⟩ a:=by
 cases c with
 |none=>apply propext;constructor<;>(first|(rintro⟨k,a,j,i,_⟩;simp_all)|simp)
 |some f=>
  obtain⟨b,a⟩:=f;simp only[ed,kN,Ep,ar,aB]
  grind
@[simp]def agx (id:Nat) (b:List Oper) (f:Bool) (c d:fZ) (h:H) (a:iR):W (jB cx cf n mask dl (.region id b.toArray f) ⟨c,d⟩ h) a=QK cx cf mask b (dl.lookup id) c h a:=by
 show W (PF cx cf mask dl id b.toArray ⟨c,d⟩ h) a=_;unfold PF;cases dl.lookup id with
 |none=>exact WO _ a
 |some g=>exact WO _ a
@[simp]def agv (b c:Code) (e:Env) (h:H) (a:iR):W (jB cx cf n mask dl (.seq b c) e h) a=W (jB cx cf n mask dl b e h) (GZ (jB cx cf n mask dl c) a):=adt _ _ e h a
@[simp]def adw (id:Nat) (b:Code) (e:Env) (h:H) (a:iR):W (jB cx cf n mask dl (.block id b) e h) a=W (jB cx cf n mask dl b e h) (sk id a):=Vn id _ e h a
def CK(d:aa T)(cx:Ctx)(cf:je)(n mask:Nat)(dl:DL)(b c:Code)(e:Env)(h:H)(a:iR):Prop:=R0 d (W (jB cx cf n mask dl b e h) a) (W (jB cx cf n mask dl c e h) a)
@[simp]def fw (d:Bool) (b c:Code) (e:Env) (h:H) (a:iR):CK (some (.bool d)) cx cf n mask dl b c e h a=if d=true then W (jB cx cf n mask dl b e h) a else W (jB cx cf n mask dl c e h) a:=id rfl
@[simp]def aeP (a:Nat) (f g:Code) (c b:fZ) (h:H) (d:iR):W (jB cx cf n mask dl (.cond (.tmp a) f g) ⟨c,b⟩ h) d=CK (if(mask>>>a)&&&1=1 then dL c a else dL b a) cx cf n mask dl f g ⟨c,b⟩ h d:=by
 rw[<-Co];apply propext;unfold CK;show W (dW (Env.get mask ⟨c,b⟩ a) λi=>_) d↔_;cases Env.get mask ⟨c,b⟩ a with
 |none=>simp[dW,R0,SW]
 |some i=>
  simp only[ed];cases i<;>simp only[R0,SW];rename_i j;cases j<;>simp
@[simp]theorem aeN (b:Code) (e:Env) (h:H) (a:iR):W (jB cx cf n mask dl (.loop b) e h) a=W (oQ (jB cx cf n mask dl b) n e h) a:=rfl
@[simp]def aeM (e:Env) (h:H) (a:iR):W (jB cx cf n mask dl .skip e h) a=a.n e h:=Ep e h a
@[simp]def aeO (id:Nat) (e:Env) (h:H) (a:iR):W (jB cx cf n mask dl (.exit id) e h) a=a.x id e h:=HX id e h a
@[simp]def agw (e:Env) (h:H) (a:iR):W (jB cx cf n mask dl .ret e h) a=a.r e h:=adu e h a
end
end
section
noncomputable section
variable {cx:Ctx}{cf:je}{mask:Nat}{e:Env}{h:H}
attribute [simp] Rx mG jO H.lz
@[simp]def abR (c b:fZ) (a:Nat):fN cx mask ⟨c,b⟩ (.tmp a)=if(mask>>>a)&&&1=1 then dL c a else dL b a:=Co c b a
@[simp]theorem abS (a:ak) (b:Int):fN cx mask e (.const (.int a b))=some (.int a b):=rfl
@[simp]theorem ZF (a:Bool):fN cx mask e (.const (.bool a))=some (.bool a):=rfl
@[simp]theorem ZE:fN cx mask e (.const (.slice none 0 0))=some (.dK [] false):=rfl
@[simp]theorem Qm (b:ByteArray):fN cx mask e (.const (.string b))=some (.str (b.data.toList.map UInt8.toNat)):=by
 show(dW (Bj b.data.toList) λa=>some (T.str a))=_;have:∀a:List UInt8,Bj a=some (a.map UInt8.toNat):=by
  intro a;induction a with
  |nil=>rfl
  |cons f a c=>
   show(dW (iq f.toNat) λg=>dW (Bj a) λd=>some (g::d))=_;rw[c];simp
 rw[this];rfl
@[simp]theorem NN (a:aj):fN cx mask e (.func a)=some (.func a []):=rfl
@[simp]theorem Ix (a:List ah):qG cx mask e a=fQ (fN cx mask e) a:=rfl
def ks(a:Int):aa Nat:=if 0<=a then some a.toNat else none
@[simp]theorem Zt (b:ak) (a:Int):qu (.int b a)=ks a:=by
 unfold ks;cases a with
 |ofNat c=>rw[aq dy];rfl
 |negSucc c=>rw[ao J];rfl
@[simp]theorem Kd (a:Nat):ks (a:Int)=some a:=by unfold ks;rw[aq J];rfl
@[simp]def Xi (a:Nat):ks (no_index (OfNat.ofNat a):Int)=some a:=Kd a
def em{a:Int}(h:0<=a):ks a=some a.toNat:=by unfold ks;rw[aq h]
@[simp]theorem ad3 (a:ah):jr (.move a) cx mask e h=val h (fN cx mask e a):=rfl
@[simp]theorem ZJ (a:ah):jr (.assign a) cx mask e h=val h (fN cx mask e a):=rfl
def ny(a:aa T)(b c:aa lQ):aa lQ:=dW a λa=>match a with| .bool d=>if d=true then b else c|_=>none
@[simp]theorem eg (c:Bool) (a b:aa lQ):ny (some (.bool c)) a b=if c=true then a else b:=rfl
@[simp]def Un (a b c:ah):jr (.pick a b c) cx mask e h=ny (fN cx mask e a) (val h (fN cx mask e b)) (val h (fN cx mask e c)):=by
 show(dW (fN cx mask e a) λa=>_)=_;unfold ny;cases fN cx mask e a with
 |none=>rfl
 |some f=>cases f<;>first|rfl|(rename_i d;cases d<;>rfl)
@[simp]theorem Yk (a:Ty):xH cx a=(match a.u with
 | .array _ b=>Option.casesOn (cx.ty b) false λd=>(match d.u with| .int c=>Ew c .u8|_=>false)
 |_=>false):=rfl
@[simp]def ach (b:ab):jr (.alloc b) cx mask e h=dW (cx.ty b) λa=>if xH cx a=true then some (.val (.ptr h.size 0 0 0) (h.cons (lL 1 true a.zero)))else some (.val (.ptr h.size 0 0 0) (h.cons (lL a.size true [a.kt]))):=by
 show(dW (cx.ty b) λa=>_)=_;cases cx.ty b with
 |none=>rfl
 |some a=>
  simp only[ed];cases xH cx a<;>simp
@[simp]theorem Oi (b:Nat) (c:Bool) (a:List T):lL b c a=⟨b,0,0,c,false,a⟩:=rfl
@[simp]def afO (d:ab) (b:ah):jr (.box d b) cx mask e h=dW (fN cx mask e b) λa=>gX a.ir (some (.val (.ptr h.size 0 0 0) (h.cons ⟨a.cells.length,0,0,true,false,[a]⟩))):=by
 show(dW (fN cx mask e b) λa=>gX a.ir (jL (h.new (λc=> .ptr c 0 0 0) (lL (kY a.cells) true [a]))))=_;simp
def yy(cx:Ctx)(mask:Nat)(e:Env):List (Nat×ah)->aa (List (Nat×T))
 | []=>some []
 |(b,d)::c=>dW (fN cx mask e d) λa=>gX a.ir (dW (yy cx mask e c) λf=>some ((b,a)::f))
@[simp]theorem XI:yy cx mask e []=some []:=rfl
@[simp]theorem Iw (a:Nat) (c:ah) (b:List (Nat×ah)):yy cx mask e ((a,c)::b)=dW (fN cx mask e c) λd=>gX d.ir (dW (yy cx mask e b) λf=>some ((a,d)::f)):=rfl
def De(a:List (Nat×ah)):partsOf cx mask e a=yy cx mask e a:=by
 induction a with
 |nil=>rfl
 |cons i a g=>
  obtain⟨f,c⟩:=i;show(dW (dW (fN cx mask e c) λb=>gX b.ir (some (f,b))) λk=>dW (partsOf cx mask e a) λj=>some (k::j))=_;rw[g,Iw];cases fN cx mask e c with
  |none=>rfl
  |some b=>cases d:b.ir<;>simp[d]
def DY(cx:Ctx)(c:List (Nat×ab)):List (Nat×T)->List T->aa (List T)
 | [],a=>some a
 |(g,d)::i,a=>dW (c[g]?) λb=>dW (cx.ty b.2) λj=>gX (decide (d.cells.length=j.size)) (dW (kV a b.1 d.cells) λf=>DY cx c i f)
@[simp]theorem Z2 (b:List (Nat×ab)) (a:List T):DY cx b [] a=some a:=rfl
@[simp]theorem Lg (a:List (Nat×ab)) (f:Nat) (b:T) (g:List (Nat×T)) (c:List T):DY cx a ((f,b)::g) c=dW (a[f]?) λd=>dW (cx.ty d.2) λj=>gX (decide (b.cells.length=j.size)) (dW (kV c d.1 b.cells) λi=>DY cx a g i):=rfl
def Hy(g:List (Nat×ab)):∀(c:List (Nat×T)) (f:List T),mU (λb=>dW (mM g b) λa=>dW (cx.ty a.2) λd=>some (a.1,d.size)) c f=DY cx g c f:=by
 intro c;induction c with
 |nil=>intro f;rfl
 |cons l c m=>
  intro f;obtain⟨b,j⟩:=l;show(dW (dW (mM g b) λa=>dW (cx.ty a.2) λd=>some (a.1,d.size)) λi=>gX (Nat.beq (kY j.cells) i.2) (dW (kV f i.1 j.cells) λk=>mU (λb=>dW (mM g b) λa=>dW (cx.ty a.2) λd=>some (a.1,d.size)) c k))=_;rw[Lg,kP];cases g[b]? with
  |none=>rfl
  |some a=>
   simp only[ed];cases cx.ty a.2 with
   |none=>rfl
   |some d=>simp_all
def D1(b:Nat):List (Nat×T)->List T->aa (List T)
 | [],a=>some a
 |(f,c)::g,a=>gX (decide (c.cells.length=b)) (dW (kV a (f*b) c.cells) λd=>D1 b g d)
@[simp]theorem Z3 (b:Nat) (a:List T):D1 b [] a=some a:=rfl
@[simp]theorem Yx (a d:Nat) (b:T) (f:List (Nat×T)) (c:List T):D1 a ((d,b)::f) c=gX (decide (b.cells.length=a)) (dW (kV c (d*a) b.cells) λg=>D1 a f g):=rfl
def E9(a:Nat):∀(b:List (Nat×T)) (c:List T),mU (λd=>some (Nat.mul d a,a)) b c=D1 a b c:=by
 intro b;induction b with
 |nil=>intro c;rfl
 |cons i b j=>
  intro c;obtain⟨d,f⟩:=i;show(gX (Nat.beq (kY f.cells) a) (dW (kV c (Nat.mul d a) f.cells) λg=>mU (λd=>some (Nat.mul d a,a)) b g))=_;simp_all
@[simp]def Zx (c b:T) (a:List T):kV (c::a) 0 [b]=some (b::a):=by rw[uf];simp
@[simp]def Zw (f c d:T) (a b:List T):kV (f::a) 0 (c::d::b)=dW (kV a 0 (d::b)) λg=>some (c::g):=by
 rw[uf,uf];simp only[aT,Nat.zero_add,List.take_zero,List.nil_append];by_cases hl:b.length+1<=a.length
 ·rw[aq J,aq J];simp
 simp_all[ao]
@[simp]theorem abw (a:T) (b d:List T) (c:Nat):kV (a::b) (c+1) d=dW (kV b c d) λf=>some (a::f):=rfl
def Lz(cx:Ctx)(h:H)(b:Ty)(c:List (Nat×T)):aa lQ:=match b.u with
 | .struct f=>dW (DY cx f c b.zero) λa=>some (.val (.agg a) h)
 | .array _ d=>dW (cx.ty d) λg=>dW (D1 g.size c b.zero) λa=>some (.val (.agg a) h)
 |_=>none
@[simp]theorem aae (a:Ty) (c:List (Nat×T)):Lz cx h a c=(match a.u with
 | .struct f=>dW (DY cx f c a.zero) λb=>some (.val (.agg b) h)
 | .array _ d=>dW (cx.ty d) λg=>dW (D1 g.size c a.zero) λb=>some (.val (.agg b) h)
 |_=>none):=rfl
@[simp]def acg (c:ab) (a:List (Nat×ah)):jr (.build c a.toArray) cx mask e h=dW (cx.ty c) λb=>dW (yy cx mask e a) λa=>Lz cx h b a:=by
 show(dW (cx.ty c) λb=>dW (partsOf cx mask e a) λa=>_)=_;rw[De];congr 1;funext b;congr 1;funext a;unfold Lz;cases b.u<;>first|rfl|(simp only[Hy,E9,yY])
def Be(c:Nat):List (Nat×T)->List T->aa (List T)
 | [],a=>some a
 |(b,d)::f,a=>gX (decide (d.cells.length=c)) (gX (decide (b<a.length)) (Be c f (a.set b d)))
@[simp]theorem YC (b:Nat) (a:List T):Be b [] a=some a:=rfl
@[simp]theorem Jq (c b:Nat) (d:T) (f:List (Nat×T)) (a:List T):Be c ((b,d)::f) a=gX (decide (d.cells.length=c)) (gX (decide (b<a.length)) (Be c f (a.set b d))):=rfl
def Hx(c:Nat):∀(b:List (Nat×T)) (a:List T),qd c b a=Be c b a:=by
 intro b;induction b with
 |nil=>intro a;rfl
 |cons k b j=>
  intro a;obtain⟨d,f⟩:=k;show(gX (Nat.beq (kY f.cells) c) (dW (kO a d f) λg=>qd c b g))=_;simp only[j2,Cy,j,Jq,kR];by_cases i:d<a.length<;>simp[i]
@[simp]def Tt (f:ab) (b:Nat) (c:List (Nat×ah)):jr (.buildSlice f b c.toArray) cx mask e h=dW (cx.ty f) λd=>(match d.u with
 | .slice g=>dW (cx.ty g) λa=>dW (yy cx mask e c) λc=>gX (decide (1<=a.size))<|gX (decide (b*a.size<=65536)) (dW (Be a.size c (List.replicate b a.kt)) λi=>
  some (.val (.arr h.size 0 0 b false) (h.cons ⟨a.size,0,0,true,false,i⟩)))
 |_=>none):=by
 show(dW (cx.ty f) λd=>_)=_;congr 1;funext d;cases d.u<;>first|rfl|skip
 simp[H7,Oi,Vf,H.lz,qj,Hx,De]
@[simp]theorem ad4 (b:ab) (a:ah):jr (.load b a) cx mask e h=dW (cx.ty b) λc=>dW (fN cx mask e a) λa=>val h (h.load c a):=rfl
def ldB(a:iX)(c d f:Nat)(g:Ty):aa T:=gX (decide (a.ep=c)) (if a.it=true then none else dW (a.fc[d]?) λe=>dW (j8 f e.cells) λb=>ku g b)
@[simp]def Ye (l b m:Nat) (k f:Bool) (c:List T) (a d g:Nat) (i:Ty):ldB ⟨l,b,m,k,f,c⟩ a d g i=gX (decide (b=a)) (if f=true then none else dW (c[d]?) λe=>dW (j8 g e.cells) λj=>ku i j):=id rfl
@[simp]def Yd (j:Ty) (b c f i:Nat):h.load j (.ptr b c f i)=dW (h.get b) λa=>ldB a c f i j:=by
 show(dW (dW (h.get b) λa=>iX.casesOn a λ_ d _ _ g l=>gX (Nat.beq d c) (Bool.casesOn g (mM l f) none)) λe=>dW (j8 i e.cells) λk=>ku j k)=_;cases h.get b with
 |none=>rfl
 |some a=>
  obtain⟨o,d,p,n,g,m⟩:=a;simp only[ed,Ye,Cy,kP];cases decide (d=c)<;>cases g<;>simp
def Ie(h:H)(c:Nat)(a:iX)(f b g:Nat)(i:List T):aa H:=gX (decide (a.ep=f)) (if a.it=true then none else dW (a.fc[b]?) λe=>dW (mK e g i) λd=>some (dY h c ⟨a.sz,a.ep,a.ver+1,a.exact,false,a.fc.set b d⟩))
@[simp]def Xm (d k a l:Nat) (g i:Bool) (b:List T) (f c j:Nat) (m:List T):Ie h d ⟨k,a,l,g,i,b⟩ f c j m=gX (decide (a=f)) (if i=true then none else dW (b[c]?) λe=>dW (mK e j m) λn=>some (dY h d ⟨k,a,l+1,g,false,b.set c n⟩)):=id rfl
def zu{a:Nat}{m:iX}(f:h.get a=some m)(d:iX):h.put a d=some (dY h a d):=by
 have:∃c,h.put a d=some c:=by
  obtain⟨b,g,i⟩:=h;rw[H.get_eq]at f;simp only at f;by_cases k:a<b
  ·rw[aq k]at f;have hl:b-1-a<i.length:=by
    grind
   show∃c,(gX (Nat.blt a b) (dW (kO i (Nat.sub (Nat.sub b 1) a) d) λj=> @Bool.rec (λ_=>aa H) (some ⟨b,g,j⟩) (some ⟨b,a,j⟩) (Nat.blt a g)))=some c;rw[show Nat.blt a b=true by rw[aJ];exact k,iH,kR,aq J,ed];cases Nat.blt a g<;>exact⟨_,rfl⟩
  grind
 obtain⟨c,l⟩:=this;unfold dY;rw[l];rfl
@[simp]def adU (l:Ty) (a i b g:Nat) (c:T):h.store l (.ptr a i b g) c=gX (decide (c.cells.length=l.size)) (dW (h.get a) λd=>Ie h a d i b g c.cells):=by
 show(gX (Nat.beq (kY c.cells) l.size) (dW (h.get a) λd=>iX.casesOn d λo j p exact k n=>
  gX (Nat.beq j i) (@Bool.rec (λ_=>aa H) (dW (mM n b) λe=>dW (mK e g c.cells) λm=>dW (kO n b m) λf=>
   dW (iq (Nat.succ p)) λq=>h.put a ⟨o,j,q,exact,false,f⟩) none k)))=_
 simp only[j2,Cy];cases t:h.get a with
 |none=>rfl
 |some d=>
  obtain⟨o,j,p,r,k,f⟩:=d;simp only[ed,Xm];congr 1;congr 1;cases k with
  |true=>rfl
  |false=>
   simp only[kP,cF,bE];cases s:f[b]? with
   |none=>rfl
   |some e=>
    simp only[ed];cases mK e g c.cells with
    |none=>rfl
    |some m=>
     have u:b<f.length:=by
      grind
     simp_all[zu,iM,kR,ed]
@[simp]theorem ab9 (b:ab) (a d:ah):jr (.store b a d) cx mask e h=dW (cx.ty b) λg=>dW (fN cx mask e a) λa=>dW (fN cx mask e d) λc=>gX c.ir (dW (h.store g a c) λf=>some (.val .undef f)):=rfl
def ncW(h:H)(a:T):aa lQ:=match a with| .ptr .. | .jH _| .func .. =>some (.val a h)|_=>none
@[simp]theorem ad5 (a b c d:Nat):ncW h (.ptr a b c d)=some (.val (.ptr a b c d) h):=rfl
@[simp]theorem Wp (a:ah):jr (.nilCheck a) cx mask e h=dW (fN cx mask e a) λb=>ncW h b:=rfl
@[simp]def ZN (d f:ah) (b:ak) (c:Int) (a:T):BI d f (.int b c) a=true:=id rfl
@[simp]def ZM (c d:ah) (b:List Nat) (a:T):BI c d (.str b) a=true:=id rfl
@[simp]def X6 (c d:ah) (b:Bool) (a:T):BI c d (.bool b) a=true:=id rfl
@[simp]def afN (g j:ab) (c d:ah):jr (.binOp .eql g c d j) cx mask e h=dW (cx.ty g) λi=>dW (fN cx mask e c) λa=>dW (fN cx mask e d) λb=>gX (BI c d a b) (dW (Pc cx i a b) λf=>some (.val (.bool f) h)):=by
 show(dW (cx.ty g) λi=>dW (fN cx mask e c) λa=>dW (fN cx mask e d) λb=>gX (BI c d a b) (dW (Pc cx i a b) λf=>val h (xX f)))=_;simp
@[simp]def afE (g j:ab) (c d:ah):jr (.binOp .neq g c d j) cx mask e h=dW (cx.ty g) λi=>dW (fN cx mask e c) λa=>dW (fN cx mask e d) λb=>gX (BI c d a b) (dW (Pc cx i a b) λf=>some (.val (.bool !f) h)):=by
 show(dW (cx.ty g) λi=>dW (fN cx mask e c) λa=>dW (fN cx mask e d) λb=>gX (BI c d a b) (dW (Pc cx i a b) λf=>val h (xX (!f))))=_;simp
@[simp]def aer (d:Ty) (a:ak) (b c:Int) (f:d.u= .int a):Pc cx d (.int a b) (.int a c)=some (decide (b=c)):=by unfold Pc;rw[f];simp
@[simp]def aeq (c:Ty) (a b:List Nat) (d:c.u= .str):Pc cx c (.str a) (.str b)=some (decide (a=b)):=by unfold Pc;rw[d];simp
@[simp]def ac7 (c:Ty) (a b:Bool) (d:c.u= .bool):Pc cx c (.bool a) (.bool b)=some (a==b):=by unfold Pc;rw[d];simp
def yd(c:BinOp)(d f:aa T)(h:H):aa lQ:=dW d λa=>dW f λb=>val h (binop c a b)
@[simp]theorem acM (c:BinOp) (a b:T):yd c (some a) (some b) h=val h (binop c a b):=rfl
@[simp]theorem afP (c d:ab) (a b:ah):jr (.binOp .add c a b d) cx mask e h=yd .add (fN cx mask e a) (fN cx mask e b) h:=rfl
@[simp]theorem afB (c d:ab) (a b:ah):jr (.binOp .sub c a b d) cx mask e h=yd .sub (fN cx mask e a) (fN cx mask e b) h:=rfl
@[simp]theorem afF (c d:ab) (a b:ah):jr (.binOp .mul c a b d) cx mask e h=yd .mul (fN cx mask e a) (fN cx mask e b) h:=rfl
@[simp]theorem afD (c d:ab) (a b:ah):jr (.binOp .quo c a b d) cx mask e h=yd .quo (fN cx mask e a) (fN cx mask e b) h:=rfl
@[simp]theorem afC (c d:ab) (a b:ah):jr (.binOp .rem c a b d) cx mask e h=yd .rem (fN cx mask e a) (fN cx mask e b) h:=rfl
@[simp]theorem afI (c d:ab) (a b:ah):jr (.binOp .lss c a b d) cx mask e h=yd .lss (fN cx mask e a) (fN cx mask e b) h:=rfl
@[simp]theorem afJ (c d:ab) (a b:ah):jr (.binOp .leq c a b d) cx mask e h=yd .leq (fN cx mask e a) (fN cx mask e b) h:=rfl
@[simp]theorem afL (c d:ab) (a b:ah):jr (.binOp .gtr c a b d) cx mask e h=yd .gtr (fN cx mask e a) (fN cx mask e b) h:=rfl
@[simp]theorem afM (c d:ab) (a b:ah):jr (.binOp .geq c a b d) cx mask e h=yd .geq (fN cx mask e a) (fN cx mask e b) h:=rfl
@[simp]theorem agR (a:UnOp) (d:ab) (b:ah):jr (.unOp a d b) cx mask e h=dW (fN cx mask e b) λc=>val h (unop a c):=rfl
@[simp]theorem Uq (c:ab) (a:ah) (b:Nat):jr (.fieldAddr c a b) cx mask e h=dW (xJ cx c b) λd=>dW (fN cx mask e a) λa=>faV d.1 h a:=rfl
@[simp]def Yy (c:ab) (a:Nat):xJ cx c a=dW (cx.ty c) λd=>(match d.u with| .struct b=>b[a]? |_=>none):=by
 show(dW (cx.ty c) λd=>match d.u with| .struct b=>mM b a|_=>none)=_;simp
def fdW(h:H)(off:Nat)(c:Ty)(d:T):aa lQ:=match d with| .agg a=>dW (j8 off a) λb=>val h (ku c b)|_=>none
@[simp]theorem aeo (off:Nat) (b:Ty) (a:List T):fdW h off b (.agg a)=dW (j8 off a) λc=>val h (ku b c):=rfl
@[simp]theorem acd (d:ab) (a:ah) (b:Nat):jr (.field d a b) cx mask e h=dW (xJ cx d b) λc=>dW (cx.ty c.2) λf=>dW (fN cx mask e a) λa=>fdW h c.1 f a:=rfl
def ixW(cx:Ctx)(h:H)(g:Ty)(d:T)(c:Nat):aa lQ:=match g.u with
 | .slice a=>dW (cx.ty a) λb=>kK h b d c
 | .array f a=>dW (cx.ty a) λb=>pA h f b d c
 |_=>none
@[simp]theorem af5 (f:Ty) (d:T) (b:Nat):ixW cx h f d b=(match f.u with
 | .slice a=>dW (cx.ty a) λc=>kK h c d b
 | .array g a=>dW (cx.ty a) λc=>pA h g c d b
 |_=>none):=rfl
@[simp]theorem Up (c:ab) (b a:ah):jr (.indexAddr c b a) cx mask e h=dW (cx.ty c) λf=>dW (fN cx mask e b) λb=>dW (fN cx mask e a) λa=>dW (qu a) λd=>ixW cx h f b d:=rfl
@[simp]def ZZ (d:Ty) (b:List T) (f:Bool) (c:Nat):kK h d (.dK b f) c=dW (b[c]?) λa=>gX (decide (a.cells.length=d.size)) (some (.val (.jH a.cells) h)):=by
 show(dW (mM b c) λa=>gX (Nat.beq (kY a.cells) d.size) (some (lQ.val (.jH a.cells) h)))=_;simp
@[simp]def RD (i:Ty) (a c g f:Nat) (j:Bool) (d:Nat):kK h i (.arr a c g f j) d=gX (decide (d<f)) (dW (h.get a) λb=>gX (decide (b.sz=i.size))<|gX (decide (b.ep=c)) (some (.val (.ptr a c (g+d) 0) h))):=by
 show(gX (Nat.blt d f) (dW (h.get a) λb=>gX (Nat.beq b.sz i.size)<|gX (Nat.beq b.ep c) (dW (iq (Nat.add g d)) λk=>some (lQ.val (.ptr a c k 0) h))))=_;simp
def icW(cx:Ctx)(h:H)(l:Ty)(c:T)(a:Nat):aa lQ:=match l.u with
 | .str=>(match c with| .str k=>dW (k[a]?) λd=>some (.val (.int .u8 d) h)|_=>none)
 | .array i g=>(match c with
  | .agg f=>dW (cx.ty g) λb=>gX (decide (a<i)) (dW (j8 (a*b.size) f) λj=>val h (ku b j))
  |_=>none)
 |_=>none
@[simp]theorem af6 (d:Ty) (b:T) (a:Nat):icW cx h d b a=(match d.u with
 | .str=>(match b with| .str l=>dW (l[a]?) λf=>some (.val (.int .u8 f) h)|_=>none)
 | .array j i=>(match b with
  | .agg g=>dW (cx.ty i) λc=>gX (decide (a<j)) (dW (j8 (a*c.size) g) λk=>val h (ku c k))
  |_=>none)
 |_=>none):=rfl
@[simp]theorem acb (d:ab) (a b:ah):jr (.index d a b) cx mask e h=dW (cx.ty d) λf=>dW (fN cx mask e a) λa=>dW (fN cx mask e b) λb=>dW (qu b) λc=>icW cx h f a c:=by
 show(dW (cx.ty d) λf=>dW (fN cx mask e a) λa=>dW (fN cx mask e b) λb=>dW (qu b) λc=>match f.u with
  | .str=>(match a with| .str n=>dW (mM n c) λi=>val h (some (.int .u8 (.ofNat i)))|_=>none)
  | .array l k=>(match a with
   | .agg j=>dW (cx.ty k) λg=>gX (Nat.blt c l) (dW (j8 (Nat.mul c g.size) j) λm=>val h (ku g m))
   |_=>none)
  |_=>none)=_
 simp only[kP,Ve,yY];rfl
@[simp]theorem X3 (b:ah) (a:Nat):jr (.extract b a) cx mask e h=dW (fN cx mask e b) λc=>exV h c a:=rfl
@[simp]def acf (b:aj) (a:List ah) (f:af ab):jr (.call ⟨.value (.func b),a.toArray,f⟩) cx mask e h=dW (fQ (fN cx mask e) a) λc=>some (.call b c):=by
 show(dW (qG cx mask e a) λa=>dW (some (T.func b [])) λg=>match g with
  | .func b d=>dW (Fg a d) λc=>some (lQ.call b c)
  |_=>none)=_
 simp
def ade(c:List T)(d:T):aa lQ:=match d with| .func b a=>some (.call b (c++a))|_=>none
@[simp]theorem Z8 (c:List T) (b:aj) (a:List T):ade c (.func b a)=some (.call b (c++a)):=rfl
@[simp]theorem ace (c:Tmp) (a:List ah) (i:af ab):jr (.call ⟨.value (.tmp c),a.toArray,i⟩) cx mask e h=dW (fQ (fN cx mask e) a) λb=>dW (fN cx mask e (.tmp c)) λd=>ade b d:=by
 show(dW (qG cx mask e a) λa=>dW (fN cx mask e (.tmp c)) λd=>match d with
  | .func g f=>dW (Fg a f) λb=>some (lQ.call g b)
  |_=>none)=_
 simp only[Ix,rN,ed];rfl
@[simp]theorem afK (a:List ah) (b:ab):jr (.call ⟨.builtin .len,a.toArray,#[b]⟩) cx mask e h=dW (fQ (fN cx mask e) a) λc=>(match c with| [d]=>OS cx h [b] d|_=>none):=rfl
def EJ(cx:Ctx)(h:H)(g:Ty)(a:T):aa lQ:=match g.u with
 | .str=>(match a with| .str f=>some (.val (.int .i64 f.length) h)|_=>none)
 | .slice _=>(match a with
  | .dK b _=>some (.val (.int .i64 b.length) h)
  | .gW=>some (.val (.int .i64 0) h)
  | .arr _ _ _ c _=>some (.val (.int .i64 c) h)
  |_=>none)
 | .array d _=>some (.val (.int .i64 d) h)
 |_=>none
def Ck(b:Ty)(a:T):EJ cx h b a=(match b.u with
 | .str=>(match a with| .str g=>some (.val (.int .i64 g.length) h)|_=>none)
 | .slice _=>(match a with
  | .dK c _=>some (.val (.int .i64 c.length) h)
  | .gW=>some (.val (.int .i64 0) h)
  | .arr _ _ _ d _=>some (.val (.int .i64 d) h)
  |_=>none)
 | .array f _=>some (.val (.int .i64 f) h)
 |_=>none):=rfl
@[simp]def acr (b:Ty) (a:List Nat) (c:b.u= .str):EJ cx h b (.str a)=some (.val (.int .i64 a.length) h):=by rw[Ck,c]
@[simp]def ZT (b:Ty) (a:List T) (c:Bool) (f:ab) (d:b.u= .slice f):EJ cx h b (.dK a c)=some (.val (.int .i64 a.length) h):=by rw[Ck,d]
@[simp]def ZS (a:Ty) (c:ab) (b:a.u= .slice c):EJ cx h a .gW=some (.val (.int .i64 0) h):=by rw[Ck,b]
@[simp]def acs (b:Ty) (c d i a:Nat) (f:Bool) (j:ab) (g:b.u= .slice j):EJ cx h b (.arr c d i a f)=some (.val (.int .i64 a) h):=by rw[Ck,g]
@[simp]def aeI (a:ab) (c:T):OS cx h [a] c=dW (cx.ty a) λb=>EJ cx h b c:=by
 show(dW (mM [a] 0) λa=>dW (cx.ty a) λb=>_)=_;simp only[kP,List.getElem?_cons_zero,ed];congr 1;funext b;unfold EJ;cases b.u<;>first|rfl|(cases c<;>first|rfl|(simp;try rfl))
@[simp]theorem afG (a:List ah) (b:af ab):jr (.call ⟨.builtin .min,a.toArray,b⟩) cx mask e h=dW (fQ (fN cx mask e) a) λc=>lF .min cx h b.toList c:=rfl
@[simp]theorem afH (a:List ah) (b:af ab):jr (.call ⟨.builtin .max,a.toArray,b⟩) cx mask e h=dW (fQ (fN cx mask e) a) λc=>lF .max cx h b.toList c:=rfl
@[simp]def afR (f:List ab) (a:ak) (b c:Int):lF .min cx h f [.int a b,.int a c]=some (.val (.int a (min b c)) h):=by
 show val h (gX (Ew a a) (yt a (@Bool.rec (λ_=>Int) b c (Mo c b))))=_;rw[so,iH,pj,xF];simp only[yY,ar,lQ.val.injEq,T.int.injEq,true_and,and_true];by_cases d:c<b
 ·rw[aY d];grind
 ·rw[aM d];grind
@[simp]def afS (f:List ab) (a:ak) (b c:Int):lF .max cx h f [.int a b,.int a c]=some (.val (.int a (max b c)) h):=by
 show val h (gX (Ew a a) (yt a (@Bool.rec (λ_=>Int) b c (Mo b c))))=_;rw[so,iH,pj,xF];simp only[yY,ar,lQ.val.injEq,T.int.injEq,true_and,and_true];by_cases d:b<c
 ·rw[aY d];grind
 ·rw[aM d];grind
end
end
section
abbrev hE:H:=⟨0,0,[]⟩
structure Et(P:ai)(cx:Ctx)(f:aj)(fn:Func)(mask:Nat)(dl:DL):Prop where
 at_:P.funcs[f]? =some fn
 ok:x8 ⟨fn,mask,false,none⟩=true
 dr:nc dl (fn.body.getD .skip)=true
def m7(a:fZ):Nat->List T->Prop
 |_,[]=>True
 |i,b::c=>dL a i=some b/\m7 a (i+1) c
@[simp]theorem Zs (b:fZ) (a:Nat):m7 b a []=True:=rfl
@[simp]theorem WY (b:fZ) (a:Nat) (c:T) (d:List T):m7 b a (c::d)=(dL b a=some c/\m7 b (a+1) d):=rfl
def mS(mask:Nat):∀(d a:Nat) (f:List T),f.length<=d->∃b,mP mask d a f=some b/\(∀c,c<a->dL b c=none)/\m7 b a f:=by
 intro d;induction d with
 |zero=>
  intro a f hl;have:f=[]:=bg J;subst this;exact⟨.nil,rfl,λ_ _=>rfl,trivial⟩
 |succ d q=>
  intro a f hl;have s:∀(e:List T) (b:fZ) (c:Nat) (l:T) (g:Nat),c<g->m7 b g e->m7 (.cons c l b) g e:=by
   intro e;induction e with
   |nil=>simp
   |cons k e r=>
    intro b c l g t o;exact⟨by rw[mG,ao J];exact o.1,r b c l (g+1) J o.2⟩
  cases f with
  |nil=>
   have⟨b,i,m,n⟩:=q (a+1) [] dy;show∃b,(dW (iq (Nat.succ a)) λj=> @Bool.rec (λ_=>aa fZ) (mP mask d j []) (dW (mP mask d j []) λh=>some (.cons a .undef h)) (kq mask a))=some b/\_;rw[iM,ed];cases kq mask a with
   |false=>exact⟨b,i,λc p=>m c J,trivial⟩
   |true=>
    refine⟨.cons a .undef b,?_,λc p=>?_,trivial⟩
    ·show(dW (mP mask d (a+1) []) λh=>some (fZ.cons a .undef h))=_;rw[i];rfl
    ·rw[mG,ao J];grind
  |cons k e=>
   have⟨b,i,m,n⟩:=q (a+1) e (by grind);refine⟨.cons a k b,?_,λc p=>?_,?_,s _ _ _ _ _ J n⟩
   ·show(dW (iq (Nat.succ a)) λj=>dW (mP mask d j e) λh=>some (fZ.cons a k h))=_;rw[iM,ed,i];rfl
   ·rw[mG,ao J];grind
   simp
def Bm(cx:Ctx)(mask:Nat)(d:List ResultVar)(e:fZ)(b:H)(c:List T->Prop):Prop:=∃a,nq cx mask ⟨e,.nil⟩ b d=some a/\c a
section
variable {P:ai}{cx:Ctx}{cf:je}{mask:Nat}
@[simp]def ady (e:fZ) (c:H) (b:List T->Prop):Bm cx mask [] e c b=b []:=by
 apply propext;constructor
 ·rintro⟨d,hl,a⟩;have hl:some []=some d:=hl
  grind
 ·exact λa=>⟨[],rfl,a⟩
def WV(c:aa T)(b:T->Prop):Prop:=∃a,c=some a/\b a
@[simp]def aeQ (b:T) (d:T->Prop):WV (some b) d=d b:=by
 apply propext;constructor
 ·rintro⟨e,c,a⟩;simp only[ar]at c;subst c;exact a
 ·exact λa=>⟨b,rfl,a⟩
def Gm(e:ResultVar)(f:List ResultVar)(a:fZ)(b:H)(d:List T->Prop):Bm cx mask (e::f) a b d=
 WV (ResultVar.casesOn e (λc=>Env.get mask ⟨a,.nil⟩ c) (λg c=>dW (Env.get mask ⟨a,.nil⟩ g) λi=>dW (cx.ty c) λj=>b.load j i)) λk=>Bm cx mask f a b λh=>d (k::h):=by
 grind [nq,WV,Bm,jO,ar,dI,ed]
@[simp]def adx (e:Tmp) (d:List ResultVar) (a:fZ) (b:H) (c:List T->Prop):Bm cx mask (.tmp e::d) a b c=WV (Env.get mask ⟨a,.nil⟩ e) λg=>Bm cx mask d a b λf=>c (g::f):=Gm _ d a b c
@[simp]def aal (e:Tmp) (f:ab) (d:List ResultVar) (b:fZ) (a:H) (c:List T->Prop):Bm cx mask (.cell e f::d) b a c=WV (dW (Env.get mask ⟨b,.nil⟩ e) λh=>dW (cx.ty f) λi=>a.load i h) λj=>Bm cx mask d b a λg=>c (j::g):=Gm _ d b a c
def zU(cx:Ctx)(mask:Nat)(e:List ResultVar)(d:List T->H->Prop):iR:=
 ⟨λb a=>Bm cx mask e b.vars a λc=>d c a,λ_ _ _=>False,λb a=>Bm cx mask e b.vars a λc=>d c a⟩
@[simp]theorem af4 (d:List ResultVar) (c:List T->H->Prop) (b:Env) (a:H):(zU cx mask d c).n b a=Bm cx mask d b.vars a λe=>c e a:=rfl
@[simp]theorem af3 (d:List ResultVar) (c:List T->H->Prop) (b:Env) (a:H):(zU cx mask d c).r b a=Bm cx mask d b.vars a λe=>c e a:=rfl
@[simp]theorem af2 (e:List ResultVar) (d:List T->H->Prop) (c:Nat) (a:Env) (b:H):(zU cx mask e d).x c a b=False:=rfl
def Eo{g:Out}{h:List ResultVar}{f:List T->H->Prop}(i:W g (zU cx mask h f)):∃c b a,g=some (c,b,a)/\(c= .normal\/c= .ret)/\Bm cx mask h b.vars a λj=>f j a:=by
 obtain⟨c,b,a,d,e⟩:=i;cases c with
 |normal=>exact⟨_,b,a,d,.inl rfl,e⟩
 |exit k=>simp_all
 |ret=>exact⟨_,b,a,d,.inr rfl,e⟩
def ph{i:List ResultVar}{a:Env}{f:H}{j:List T}(hl:nq cx mask ⟨a.vars,.nil⟩ f i=some j):nq cx mask a f i=some j:=by
 unfold nq at*
 induction i generalizing j with
 |nil=>exact hl
 |cons l i r=>
  rw[jO]at hl|-;have⟨d,g,hl⟩:=dI.1 hl;have⟨s,p,hl⟩:=dI.1 hl;simp only[ar]at hl;subst hl;have m:∀k d,Env.get mask ⟨a.vars,.nil⟩ k=some d->Env.get mask a k=some d:=by
   intro k d o;obtain⟨u,t⟩:=a;rw[Co]at o|-;simp_all[FW]
  have q:(@ResultVar.rec (λ_=>aa T) (λc=>Env.get mask a c) (λe c=>dW (Env.get mask a e) λb=>dW (cx.ty c) λh=>f.load h b) l)=some d:=by
   cases l with
   |tmp c=>grind
   |cell e c=>
    have g:(dW (Env.get mask ⟨a.vars,.nil⟩ e) λb=>dW (cx.ty c) λh=>f.load h b)=some d:=g;have⟨b,n,g⟩:=dI.1 g;show(dW (Env.get mask a e) λb=>dW (cx.ty c) λh=>f.load h b)=some d;rw[m e b n];exact g
  grind
end
def S7{l:Env->H->Out}(e:Nat)(g:Nat->fZ->H->Prop){k:iR}
 (p:∀a d b,a<=e->g a d b->W (l ⟨d,.nil⟩ b) (yD (λc b=>c.tmps= .nil/\a<e/\g (a+1) c.vars b) k)) {j:Nat} (r:e<j) {a:Nat} (i:a<=e) {d:fZ} {b:H} (h:g a d b):W (oQ l j ⟨d,.nil⟩ b) k:=by
 refine SY (σ:=Nat) (I:=λa c b=>a<=e/\c.tmps= .nil/\g a c.vars b) (m:=λa=>e-a) ?_ j a _ _ J ⟨i,rfl,h⟩;rintro a ⟨d,t⟩ b ⟨i,ht,h⟩;simp only at ht h;subst ht;have⟨n,c,o,q,f⟩:=p a d b i h;refine⟨n,c,o,q,?_⟩;cases n with
 |normal=>exact⟨a+1,by have:=f.2.1;omega,by have:=f.2.1;omega,f.1,f.2.2⟩
 |exit s=>exact f
 |ret=>exact f
@[simp]def ag9:Hp hE=True:=by simp[Hp]
@[simp]def adF (b:H) (c:iX):Hp (b.cons c)=Hp b:=by
 apply propext;constructor
 ·intro a;unfold Hp at*;simp[H.cons]at a;exact a
 ·exact λa=>Vv a c
end
section
mutual
def cn:T->T
 | .dK b c=>(match b with| []=> .gW|e::b=> .dK (YS (e::b)) false)
 | .agg a=> .agg (YS a)
 | .tuple a=> .tuple (YS a)
 |v=>v
def YS:List T->List T
 | []=>[]
 |x::a=>cn x::YS a
end
def HK:∀a:List T,YS a=a.map cn
 | []=>by rw[YS];rfl
 |x::b=>by rw[YS,HK b];rfl
def nP(a:List T)(b:Bool):cn (.dK a b)=sl (a.map cn):=by
 cases a with
 |nil=>rw[cn];rfl
 |cons c a=>rw[cn,HK];rfl
def jR(a:List T):cn (.agg a)= .agg (a.map cn):=by rw[cn,HK]
def uQ(a:List T):cn (.tuple a)= .tuple (a.map cn):=by rw[cn,HK]
@[simp]def R9:cn .undef= .undef:=by simp[cn]
@[simp]def MQ (a:Bool):cn (.bool a)=(.bool a):=by simp[cn]
@[simp]def HJ (a:ak) (b:Int):cn (.int a b)=(.int a b):=by simp[cn]
@[simp]def HI (a:List Nat):cn (.str a)=(.str a):=by simp[cn]
@[simp]def MN:cn .kE= .kE:=by simp[cn]
@[simp]def YP (a b c d:Nat):cn (.ptr a b c d)=(.ptr a b c d):=by simp[cn]
@[simp]def ML (a:List T):cn (.jH a)=(.jH a):=by simp[cn]
@[simp]def Jv:cn .gW= .gW:=by simp[cn]
@[simp]def YR (a b e d:Nat) (c:Bool):cn (.arr a b e d c)=(.arr a b e d c):=by simp[cn]
@[simp]def U1 (b:aj) (a:List T):cn (.func b a)=(.func b a):=by simp[cn]
@[simp]def MP:cn .kT= .kT:=by simp[cn]
@[simp]def MO:cn .kS= .kS:=by simp[cn]
@[simp]def Sb (a:ab) (b:T):cn (.iface a b)=(.iface a b):=by simp[cn]
@[simp]def U0 (a:Nat):cn (.iter a)=(.iter a):=by simp[cn]
@[simp]def YQ (a:Nat):cn (.map a)=(.map a):=by simp[cn]
@[simp]def UZ:cn .oq= .oq:=by simp[cn]
def Gb(a:T):(cn a).scalar=a.scalar:=by
 cases a with
 |dK c d=>rw[nP];cases c<;>rfl
 |agg b=>rw[jR];rfl
 |tuple b=>rw[uQ];rfl
 |_=>simp
theorem Jw(a:T):(cn a).cells=a.cells.map cn:=by
 cases a with
 |dK c d=>rw[nP];cases c<;>(show [_]=[_];rw[nP])
 |agg b=>rw[jR];rfl
 |tuple b=>rw[uQ];show [_]=[_];rw[uQ]
 |_=>simp[T.cells]
def U2(a:List T):fF (a.map cn)=(fF a).map cn:=by
 induction a with
 |nil=>rfl
 |cons b a c=>
  grind [fF,Jw]
def kA.cn{a:T}(b:kA a):kA (cn a):=by
 induction b with
 |dK d l _ g=>
  rw[nP];cases d with
  |nil=>exact .gW
  |cons k d=>
   exact .dK _ _ (λa f=>by
    grind)
 |agg c _ g=>
  rw[jR];exact .agg _ (λa f=>by
   grind)
 |jH c b=>rw[ML];exact .jH c b
 |bool e=>rw[MQ];exact .bool e
 |int h i=>rw[HJ];exact .int h i
 |str j=>rw[HI];exact .str j
 |kE=>rw[MN];exact .kE
 |gW=>rw[Jv];exact .gW
 |kT=>rw[MP];exact .kT
 |kS=>rw[MO];exact .kS
def fI.cn{hp:af Obj}{μ:Mu}{b:T}{o:am}(a:fI hp μ b o):fI hp μ (cn b) o:=by
 induction a with
 |oc u c=>rw[nP];exact .gW c 0
 |dK i j u r off s N arr n fz x w hl O Q h l hr m=>
  rw[nP];show fI hp μ (.dK (Go.TI.cn i::j.map Go.TI.cn) false) _;have B:fF (Go.TI.cn i::j.map Go.TI.cn)=(fF (i::j)).map Go.TI.cn:=U2 (i::j);have:=fI.dK (hp:=hp) (μ:=μ) (Go.TI.cn i) (j.map Go.TI.cn) false r off s N arr n fz x w (by grind) dy (λb e=>?_) ?_ ?_ ?_
  ·grind
  ·have e:b∈(i::j).map Go.TI.cn:=e;obtain⟨q,p,rfl⟩:=List.mem_map.1 e;rw[Jw,aG];grind
  ·rw[B,aG];exact h
  ·intro b e;rw[B]at e;obtain⟨q,p,rfl⟩:=List.mem_map.1 e;exact⟨by rw[Gb];exact(l q p).1,(l q p).2.cn⟩
  grind
 |agg A k h l hr m=>
  rw[jR];refine .agg _ k (by grind) (λb e=>?_) λz b C=>?_
  ·obtain⟨q,p,rfl⟩:=List.mem_map.1 e;rw[Gb];grind
  grind
 |tuple R k h hr m=>
  rw[uQ];refine .tuple _ k (by grind) λz b C=>?_;rw[aW]at C
  grind
 |jH A r off arr n fz x w h l hr m=>rw[ML];exact .jH A r off arr n fz x w h l hr
 |undef=>rw[R9];exact .undef
 |bool d=>rw[MQ];exact .bool d
 |int z K=>rw[HJ];exact .int z K
 |str M a=>rw[HI];exact .str M a
 |kE=>rw[MN];exact .kE
 |ptr d t y H f c g v G=>rw[YP];exact .ptr d t y H f c g v G
 |gW c s=>rw[Jv];exact .gW c s
 |arr d t L I u f c E g v hl a=>rw[YR];exact .arr d t L I u f c E g v hl a
 |func F D k h hr m=>rw[U1];exact .func F D k h hr
 |kT=>rw[MP];exact .kT
 |kS=>rw[MO];exact .kS
 |iface n b o a m=>rw[Sb];exact .iface n b o a
 |iter d f c g a=>rw[U0];exact .iter d f c g a
 |map d f y g a=>rw[YQ];exact .map d f y g a
 |oq=>rw[UZ];exact .oq
def gY.cn{f:af Obj}{h:Mu}{c:List T}{d:List am}(e:gY f h c d):gY f h (c.map Go.TI.cn) d:=by
 refine⟨by simpa using e.1,λg j a=>?_⟩;rw[aW]at a;cases b:c[g]? with
 |none=>rw[b]at a;grind
 |some i=>rw[b]at a;simp at a;subst a;exact(e.2 g i b).cn
mutual
def mF:T->Bool
 | .bool _| .int _ _| .str _| .kE| .kT| .kS| .oq| .gW=>true
 | .agg a=>pk a
 | .tuple a=>pk a
 |_=>false
def pk:List T->Bool
 | []=>true
 |x::a=>mF x&&pk a
end
def BC{a:List T}(c:pk a=true):∀b∈a,mF b=true:=by
 induction a with
 |nil=>simp
 |cons f a e=>
  intro b d;rw[pk,ax]at c
  grind
def fI.plain{n o:af Obj}{r s:Mu}{a:T}{i:am}(f:fI n r a i)(c:mF a=true):fI o s a i:=by
 induction f with
 |bool k=>exact .bool k
 |int d p=>exact .int d p
 |str q f=>exact .str q f
 |kE=>exact .kE
 |kT=>exact .kT
 |kS=>exact .kS
 |oq=>exact .oq
 |gW j l=>exact .gW j l
 |agg t e g m hr h=>
  rw[mF]at c;exact .agg _ e g m λd a b=>h d a b (BC c a (ay b))
 |tuple u e g hr h=>
  rw[mF]at c;exact .tuple _ e g λd a b=>h d a b (BC c a (ay b))
 |_=>simp[mF]at c
section
variable {P:ai}{cx:Ctx}
def OZ{b:Mu}{a:Nat}:nR (mQ 0 b) a↔b.pM a:=by
 constructor
 ·rintro(⟨e,d,c,_⟩|hr)
  ·exact absurd (kj c).1 J
  ·exact hr
 ·exact λhr=> .inr hr
def NG{z:aj}{o k:List T}{w:T}{s:H}(F:lf P cx z (k.map cn) w)(u:fQ (kw s 0) o=some k)(hr:mF w=true):qh P cx ⟨z,o,s,w,s⟩:=by
 intro X d f x b B;have E:gY d.heap (mQ 0 f) k x.toList:=by
  have A:iF (λj U=>∀p,fI d.heap f j p->fI d.heap (mQ 0 f) U p) o k:=iF.map (λn m y O p G=>rj b G O) u;refine⟨by rw[<-A.length];exact B.1,λQ j K=>?_⟩;have⟨n,m,u⟩:=A.get K;exact u _ (B.2 Q n m)
 have S:St cx d.heap.size d.heap (mQ 0 f) hE:=by
  refine⟨rfl,au _,λh e c=>absurd (kj c).1 J,λh W e V c=>absurd (kj c).1 J,λh e c=>absurd (kj c).1 J,λh e c=>absurd (kj c).1 J,λa hr=>b.rE a hr,λr q v=>?_⟩;have:=b.Ab r q v;refine this.cut ?_;have⟨_,_,_,_,_,_,_,_,_,M,_⟩:=this.mh;exact .jH _ λj N=>(M j N).2.low 0
 refine(F d.heap.size d (mQ 0 f) x hE S E.cn).mono λj D ⟨⟨an,R,Y,g,ae⟩,al⟩=>?_;have C:∀a,a<d.heap.size->¬f.pM a->D.heap[a]? =d.heap[a]? :=λa i l=>(g.ext.nZ a i λI=>l (OZ.1 I)).1;have t:Ext d.heap f D.heap f:=by
  refine⟨g.ext.size,λa i l=>⟨C a i λhr=>l (.inr hr),l⟩,λh e c=>⟨e,c,.inl rfl⟩,rfl,λa i hr=>g.ext.kept a i hr⟩
 refine⟨⟨f,R.plain hr,⟨b.wf,aO b.fit g.ext.size,λh e c=>?_,b.inj,b.low,b.apart,λa hr=>bD (b.rE a hr) g.ext.size,λr q v=>(b.Ab r q v).ext t⟩,⟨t,g.os,g.tape,g.output⟩,yS.refl _ _⟩,lr.refl b.wf⟩;have⟨n,m,L⟩:=b.box h e c;exact⟨n,m,L.ext t (C e.ja (b.lt c) (b.apart h e c))⟩
def NF{c:aj}{b:List T}{d:T}{a:H}(h:lf P cx c (b.map cn) d):qh P cx ⟨c,b,a,d,a⟩:=
 λe j k f i g=>h e j k f a i g.cn
structure fP where
 α:Type
 A:α->List T
 pre:α->Prop
 R:α->T
 inj:∀a b,A a=A b->R a=R b
structure li where
 pre:List T->H->Prop
 post:List T->H->T->H->Prop
structure fy where
 p:aj->aa fP
 h:aj->aa li
open Classical in
def rl(P:ai)(cx:Ctx)(f:fy)(d:aj)(c:List T):aa T:=match f.p d with
 |none=>none
 |some a=>if e:∃b,a.pre b/\a.A b=c/\lf P cx d c (a.R b)then some (a.R e.choose)else none
open Classical in
def hl(P:ai)(cx:Ctx)(g:fy)(c:aj)(b:List T)(d:H):aa (T×H):=match g.h c with
 |none=>none
 |some e=>if f:∃a:T×H,e.post b d a.1 a.2/\qh P cx ⟨c,b,d,a.1,a.2⟩then some f.choose else none
def ye(h:H)(d:Nat)(v:T):aa T:=dW (freeze h 0 d v) λv=>some (cn v)
def fz(b:H)(a:T):aa T:=dW (iN b 0 a) λa=>some (cn a)
def qP(b:H)(a:T):aa T:=dW (kw b 0 a) λa=>some (cn a)
def SO(b:H)(a:List T):aa (List T):=fQ (qP b) a
mutual
def j4:T->Bool
 | .bool _| .int _ _| .str _| .kE| .dK _ _| .gW| .kT| .kS=>true
 | .agg a=>pf a
 |_=>false
def pf:List T->Bool
 | []=>true
 |x::a=>j4 x&&pf a
end
def rx(P:ai)(cx:Ctx)(d:fy):je:=λc a b=>match SO b a with
 |none=>hl P cx d c a b
 |some f=>match rl P cx d c f with
  |none=>hl P cx d c a b
  |some e=>if(mF e||pf a)=true then some (e,b)else hl P cx d c a b
def sj{f g j:Type}(b:f->aa g)(d:g->j):∀a:List f,fQ (λc=>dW (b c) λe=>some (d e)) a=dW (fQ b a) λi=>some (i.map d):=by
 intro a;induction a with
 |nil=>rfl
 |cons c a h=>
  rw[jO,jO,h];cases b c with
  |none=>rfl
  |some e=>simp only[ed];cases fQ b a<;>rfl
def JL{c:H}{a b:List T}(d:SO c a=some b):∃e,fQ (kw c 0) a=some e/\b=e.map cn:=by
 unfold SO qP at d;rw[sj]at d
 grind [dI,hl,ar]
mutual
def tK(e:H)(g d:Nat):(b:T)->j4 b=true->(∀c,b≠ .agg c)->freeze e g (d+1) b=some b
 | .bool _,_,_=>rfl
 | .int _ _,_,_=>rfl
 | .str _,_,_=>rfl
 | .kE,_,_=>rfl
 | .dK _ _,_,_=>rfl
 | .gW,_,_=>rfl
 | .kT,_,_=>rfl
 | .kS,_,_=>rfl
 | .agg c,_,f=>absurd rfl (f c)
 | .undef,a,_=>by grind [j4]
 | .ptr ..,a,_=>by grind [j4]
 | .jH _,a,_=>by grind [j4]
 | .arr ..,a,_=>by grind [j4]
 | .func ..,a,_=>by grind [j4]
 | .iface ..,a,_=>by grind [j4]
 | .iter _,a,_=>by grind [j4]
 | .map _,a,_=>by grind [j4]
 | .oq,a,_=>by grind [j4]
 | .tuple _,a,_=>by grind [j4]
end
def rk(b:H){a:T}(e:j4 a=true)(d:∀c,a≠ .agg c):iN b 0 a=some a:=by
 have:=tK b 0 11 a e d;cases a<;>first|exact this|rfl
def CP{a:List T}(c:pf a=true):∀b∈a,j4 b=true:=by
 induction a with
 |nil=>simp
 |cons f a e=>
  intro b d;rw[pf,ax]at c
  grind
def SN{b:H}{a d:List T}{base:Nat}{o:af Obj}{t:Mu}{j:List am}(m:gY o t a j)(p:pf a=true)(n:SO b a=some d):d=a.map cn:=by
 obtain⟨v,hl,rfl⟩:=JL n;have:fQ (kw b 0) a=some a:=by
  refine tF λh e=>?_;have f:=CP p h e;have⟨w,r⟩:=m.mem e;cases h with
  |agg l=>
   show(dW (fQ (iN b 0) l) λs=>some (T.agg s))=_;obtain⟨u,rfl,_,q⟩:=r.qm;rw[tF λi g=>rk b (CP (by rw[j4]at f;omega) i g) (λk c=>by have:=q i g;rw[c]at this;grind [T.scalar])];rfl
  |_=>exact rk b f (λk c=>by simp at c)
 rw[this]at hl;simp only[ar]at hl;rw[hl]
def Ik{e:fy}{c:aj}{b:List T}{d:T}(a:rl P cx e c b=some d):lf P cx c b d:=by
 unfold rl at a;split at a
 ·grind
 ·split at a
  ·grind
  grind
def DF{h:fy}{c:aj}{b:List T}{d e:H}{f:T}(a:hl P cx h c b d=some (f,e)):qh P cx ⟨c,b,d,f,e⟩:=by
 unfold hl at a;split at a
 ·grind
 ·split at a
  ·rename_i g;simp only[ar]at a;have:=g.choose_spec.2;rw[a]at this;omega
  grind
def Eb(P:ai)(cx:Ctx)(j:fy):nY P cx (rx P cx j):=by
 intro m k n q o a base f g d e b;unfold rx at a;split at a
 ·exact DF a base f g d e b
 ·rename_i l h;split at a
  ·exact DF a base f g d e b
  ·rename_i r hr;split at a
   ·rename_i c;simp only[ar,aB]at a;obtain⟨rfl,rfl⟩:=a;rw[bY]at c;rcases c with c|c
    ·obtain⟨p,hl,rfl⟩:=JL h;exact NG (Ik hr) hl c base f g d e b
    ·have i:=SN (base:=base) b c h;subst i;exact NF (Ik hr) base f g d e b
   ·exact DF a base f g d e b
def fP.Ok(P:ai)(cx:Ctx)(c:aj)(b:fP):Prop:=∀a,b.pre a->lf P cx c (b.A a) (b.R a)
def gu{g:fy}{c:aj}{a:fP}(ht:g.p c=some a)(h:a.Ok P cx c)(b:a.α)(e:a.pre b):rl P cx g c (a.A b)=some (a.R b):=by
 have f:∃d,a.pre d/\a.A d=a.A b/\lf P cx c (a.A b) (a.R d):=⟨b,e,rfl,h b e⟩;unfold rl;rw[ht];simp only;rw[dif_pos f,a.inj _ _ f.choose_spec.2.1]
def li.Ok(P:ai)(cx:Ctx)(f:aj)(c:li):Prop:=∀a b,c.pre a b->∃e d,c.post a b e d/\qh P cx ⟨f,a,b,e,d⟩
def F2{tb:fy}{d:aj}{c:li}(ht:tb.h d=some c)(l:c.Ok P cx d){a:List T}{b:H}(m:c.pre a b):∃i e,hl P cx tb d a b=some (i,e)/\c.post a b i e:=by
 have⟨i,e,j,k⟩:=l a b m;have f:∃g:T×H,c.post a b g.1 g.2/\qh P cx ⟨d,a,b,g.1,g.2⟩:=⟨(i,e),j,k⟩;refine⟨f.choose.1,f.choose.2,?_,f.choose_spec.1⟩;unfold hl;rw[ht];simp only;rw[dif_pos f]
theorem Cf{b:fy}{a:aj}(ht:b.p a=none)(c:List T):rl P cx b a c=none:=by unfold rl;rw[ht]
def cfV(e:aa T)(c:Bool)(d:H)(a:aa (T×H)):aa (T×H):=match e with
 |none=>a
 |some b=>if(mF b||c)=true then some (b,d)else a
@[simp]def adf (b:Bool) (c:H) (a:aa (T×H)):cfV none b c a=a:=id rfl
@[simp]def Sf (a:T) (b:Bool) (c:H) (d:aa (T×H)):cfV (some a) b c d=if(mF a||b)=true then some (a,c)else d:=id rfl
def cfW(P:ai)(cx:Ctx)(e:fy)(c:aj)(a:List T)(d:H)(b:aa (List T)):aa (T×H):=match b with
 |none=>hl P cx e c a d
 |some b=>cfV (rl P cx e c b) (pf a) d (hl P cx e c a d)
@[simp]def Se (d:fy) (b:aj) (a:List T) (c:H):cfW P cx d b a c none=hl P cx d b a c:=id rfl
@[simp]def Sd (d:fy) (b:aj) (a e:List T) (c:H):cfW P cx d b a c (some e)=cfV (rl P cx d b e) (pf a) c (hl P cx d b a c):=id rfl
def Sg(d:fy)(c:aj)(a:List T)(b:H):rx P cx d c a b=cfW P cx d c a b (SO b a):=by
 unfold rx cfW cfV;cases SO b a with
 |none=>rfl
 |some e=>rfl
end
end
section
section
variable {cx:Ctx}{h:H}
@[simp]def agc (a:ak) (b:Int):fz h (.int a b)=some (.int a b):=id rfl
@[simp]def aeg (a:Bool):fz h (.bool a)=some (.bool a):=id rfl
@[simp]def aga (a:List Nat):fz h (.str a)=some (.str a):=id rfl
@[simp]def UB (a:List T) (b:Bool):fz h (.dK a b)=some (sl (a.map cn)):=by
 show some (cn (.dK a b))=_;rw[nP]
@[simp]def Yu (a b c d:Nat):fz h (.ptr a b c d)=none:=by
 unfold fz iN;simp
@[simp]def aem (c:Nat) (a:ak) (b:Int):ye h (c+1) (.int a b)=some (.int a b):=id rfl
@[simp]def ac2 (b:Nat) (a:Bool):ye h (b+1) (.bool a)=some (.bool a):=id rfl
@[simp]def aek (b:Nat) (a:List Nat):ye h (b+1) (.str a)=some (.str a):=id rfl
@[simp]def RE (c:Nat) (a:List T) (b:Bool):ye h (c+1) (.dK a b)=some (sl (a.map cn)):=by
 show some (cn (.dK a b))=_;rw[nP]
@[simp]def UD (b:Nat) (a:List T):ye h (b+1) (.agg a)=dW (fQ (ye h b) a) λc=>some (.agg c):=by
 show(dW (dW (fQ (freeze h 0 b) a) λc=>some (T.agg c)) λd=>some (cn d))=_;unfold ye;rw[sj];cases fQ (freeze h 0 b) a with
 |none=>rfl
 |some c=>simp[jR]
def ik(c e b d:Nat)(l:Bool):h.jw (.arr c e b d l)=dW (h.get c) λa=>gX (decide (a.ep=e)) (if a.it=true then none else if b+d<=a.fc.length then some ((a.fc.drop b).take d)else none):=by
 show(dW (h.get c) λa=>iX.casesOn a λ_ g _ _ f j=>gX (Nat.beq g e) (Bool.casesOn f (dW (j8 b j) λm=>takeN d m) none))=_;cases h.get c with
 |none=>rfl
 |some a=>
  obtain⟨o,g,p,n,f,k⟩:=a;simp only[ed,Cy];congr 1;cases f with
  |true=>rfl
  |false=>
   simp only[cF,bE,mn,oh];by_cases i:b<=k.length
   ·rw[aq i,ed]
    grind
   ·rw[ao i,ao J];rfl
def yG(i a c e d:Nat)(k:Bool):ye h (i+1) (.arr a c e d k)=dW (h.jw (.arr a c e d k)) λf=>dW (fQ (ye h i) f) λb=>some (sl b):=by
 have p:freeze h 0 (i+1) (.arr a c e d k)=gX (Nat.ble 0 a) (dW (h.get a) λg=>iX.casesOn g λ_ j _ exact l m=>
  gX (Nat.beq j c) (@Bool.rec (λ_=>aa T) (dW (dW (j8 e m) λb=>takeN d b) λf=>dW (fQ (freeze h 0 i) f) λn=>
   @List.rec T (λ_=>aa T) (@List.rec T (λ_=>aa T) (@Bool.rec (λ_=>aa T) (some T.gW) (some (T.dK [] false)) exact) (λ_ _ _=>some T.gW) m) (λ_ _ _=>some (T.dK n k)) n) none l)):=rfl
 have q:h.jw (.arr a c e d k)=dW (h.get a) λg=>iX.casesOn g λ_ j _ _ l m=>gX (Nat.beq j c) (@Bool.rec (λ_=>aa (List T)) (dW (j8 e m) λb=>takeN d b) none l):=rfl;unfold ye;rw[p,q];rw[show Nat.ble 0 a=true by simp,iH];cases h.get a with
 |none=>rfl
 |some g=>
  obtain⟨r,j,s,o,l,f⟩:=g;simp only[ed];cases Nat.beq j c with
  |false=>rfl
  |true=>
   simp only[iH];cases l with
   |true=>rfl
   |false=>
    simp only;cases (dW (j8 e f) λb=>takeN d b)with
    |none=>rfl
    |some es1=>
     simp only[ed];rw[sj];cases fQ (freeze h 0 i) es1 with
     |none=>rfl
     |some Ey=>
      simp only[ed];cases Ey with
      |nil=>
       cases f with
       |nil=>cases o<;>simp[nP,sl]
       |cons=>simp[sl]
      |cons g b=>simp[nP]
@[simp]def wQ (a b e d:Nat) (c:Bool):fz h (.arr a b e d c)=dW (h.jw (.arr a b e d c)) λf=>dW (fQ (ye h 11) f) λg=>some (sl g):=by
 rw[<-yG];unfold fz ye iN;simp only;rw[show Nat.ble 0 a=true by simp]
def MM(a:List T):cn (sl a)=sl (a.map cn):=by
 cases a with
 |nil=>rfl
 |cons c b=>exact nP (c::b) false
def acX(a:List T):fz h (sl a)=some (sl (a.map cn)):=by cases a<;>first|rfl|exact UB _ _
def Yv(b:Nat)(a:List T):ye h (b+1) (sl a)=some (sl (a.map cn)):=by cases a<;>first|rfl|exact RE b _ _
@[simp]def agr {d:Type} (a:d->T) (c:List d) (e:∀b,cn (a b)=a b):cn (sl (c.map a))=sl (c.map a):=by
 rw[MM,cO];congr 2;funext b;grind
@[simp]def agb {d:Type} (a:d->T) (c:List d) (e:∀b,cn (a b)=a b):fz h (sl (c.map a))=some (sl (c.map a)):=by
 rw[acX,cO];congr 3;funext b;grind
@[simp]def ael {d:Type} (e:Nat) (a:d->T) (c:List d) (f:∀b,cn (a b)=a b):ye h (e+1) (sl (c.map a))=some (sl (c.map a)):=by
 rw[Yv,cO];congr 3;funext b;grind
@[simp]def IT {e:Type} (c:T->aa T) (a:e->T) (d:List e) (f:∀b,c (a b)=some (a b)):fQ c (d.map a)=some (d.map a):=tF λb g=>by
 grind
@[simp]def Mt (a:List T):qP h (.agg a)=dW (fQ (fz h) a) λb=>some (.agg b):=by
 show(dW (dW (fQ (iN h 0) a) λb=>some (T.agg b)) λc=>some (cn c))=_;unfold fz;rw[sj];cases fQ (iN h 0) a with
 |none=>rfl
 |some b=>simp[jR]
@[simp]def aej (a:ak) (b:Int):qP h (.int a b)=some (.int a b):=id rfl
@[simp]def ac0 (a:Bool):qP h (.bool a)=some (.bool a):=id rfl
@[simp]def aeh (a:List Nat):qP h (.str a)=some (.str a):=id rfl
@[simp]def acY (a:List T) (b:Bool):qP h (.dK a b)=fz h (.dK a b):=id rfl
@[simp]theorem agd (a:List T):qP h (sl a)=fz h (sl a):=by cases a<;>rfl
@[simp]def UC (a b e d:Nat) (c:Bool):qP h (.arr a b e d c)=fz h (.arr a b e d c):=id rfl
@[simp]def aei (a b c d:Nat):qP h (.ptr a b c d)=none:=Yu (h:=h) a b c d
@[simp]def aeJ:SO h []=some []:=id rfl
@[simp]def adp (b:T) (a:List T):SO h (b::a)=dW (qP h b) λd=>dW (SO h a) λc=>some (d::c):=id rfl
@[simp]def Xq:pf []=true:=by rw[pf]
@[simp]def V1 (b:T) (a:List T):pf (b::a)=(j4 b&&pf a):=by rw[pf]
@[simp]def Zz (a:ak) (b:Int):j4 (.int a b)=true:=by rw[j4]
@[simp]def Xs (a:Bool):j4 (.bool a)=true:=by rw[j4]
@[simp]def Zy (a:List Nat):j4 (.str a)=true:=by rw[j4]
@[simp]def Xr (a:List T) (b:Bool):j4 (.dK a b)=true:=by rw[j4]
@[simp]def V2:j4 .gW=true:=by rw[j4]
@[simp]def abz (a:List T):j4 (sl a)=true:=by cases a<;>simp[sl]
@[simp]def ZB (a:List T):j4 (.agg a)=pf a:=by rw[j4]
@[simp]def ZA (a b e d:Nat) (c:Bool):j4 (.arr a b e d c)=false:=by simp[j4]
@[simp]def Wl:pk []=true:=by rw[pk]
@[simp]def T1 (b:T) (a:List T):pk (b::a)=(mF b&&pk a):=by rw[pk]
@[simp]def XG (a:ak) (b:Int):mF (.int a b)=true:=by rw[mF]
@[simp]def Wm (a:Bool):mF (.bool a)=true:=by rw[mF]
@[simp]def T3:mF .gW=true:=by rw[mF]
@[simp]def T2 (a:List T):mF (.tuple a)=pk a:=by rw[mF]
@[simp]def Mp (a:List T):nz (sl a)=mv a:=by cases a<;>simp[sl]
@[simp]def ad6 {c:Type} (a:c->T) (b:List c) (d:∀e,nz (a e)=true):mv (b.map a)=true:=Ol a d b
@[simp]theorem adg (a:List T):(sl a).cells=[sl a]:=by cases a<;>rfl
@[simp]theorem aef (a:List T):(sl a).ir=true:=by cases a<;>rfl
@[simp]def acR (a b e d:Nat) (c:Bool):(T.arr a b e d c).ir=true:=id rfl
@[simp]def acP (a b c d:Nat):(T.ptr a b c d).ir=true:=id rfl
@[simp]def aac (a b e d:Nat) (c:Bool):(T.arr a b e d c).cells=[.arr a b e d c]:=id rfl
@[simp]def aaa (a b c d:Nat):(T.ptr a b c d).cells=[.ptr a b c d]:=id rfl
@[simp]def ad7 (b:Ty) (a:List T) (d:ab) (c:b.u= .slice d):EJ cx h b (sl a)=some (.val (.int .i64 a.length) h):=by cases a<;>simp[sl,c]
@[simp]theorem aed (c:Ty) (a:List T) (b:Nat):kK h c (sl a) b=dW (a[b]?) λd=>gX (decide (d.cells.length=c.size)) (some (.val (.jH d.cells) h)):=by cases a<;>simp[sl];rfl
@[simp]theorem RA (a:List T):h.jw (sl a)=some a:=by cases a<;>rfl
def AG{a b:List T}(c:sl a=sl b):a=b:=by
 cases a<;>cases b<;>simp[sl]at c
 ·rfl
 grind
def jz{f:Type}{a:f->T}(i:∀d e,a d=a e->d=e){b c:List f}(g:sl (b.map a)=sl (c.map a)):b=c:=by
 have:=AG g
 grind [List.map_inj_right]
@[simp]def dT (b:iX) (a:Nat):(h.cons b).get a=if a=h.size then some b else h.get a:=by
 rw[H.get_eq,H.get_eq];show(if a<h.size+1 then(b::h.fG)[h.size+1-1-a]? else none)=_
 grind
def dN{a:Nat}{x:iX}(k:h.get a=some x)(d:iX)(f:Nat):(dY h a d).get f=if f=a then some d else h.get f:=by
 have c:=zu k d;generalize dY h a d=g at*
 obtain⟨b,i,e⟩:=h;have l:a<b:=H.fa k;have c:(gX (Nat.blt a b) (dW (kO e (Nat.sub (Nat.sub b 1) a) d) λj=> @Bool.rec (λ_=>aa H) (some ⟨b,i,j⟩) (some ⟨b,a,j⟩) (Nat.blt a i)))=some g:=c;rw[show Nat.blt a b=true by rw[aJ];exact l,iH,kR]at c;by_cases hl:Nat.sub (Nat.sub b 1) a<e.length
 ·rw[aq hl,ed]at c;have p:g.size=b/\g.fG=e.set (b-1-a) d:=by
   cases m:Nat.blt a i<;>rw[m]at c<;>simp only[ar]at c<;>subst c<;>exact⟨rfl,rfl⟩
  obtain⟨n,o⟩:=p;rw[H.get_eq,H.get_eq,n,o];have hl:b-1-a<e.length:=hl
  grind
 simp_all[ao]
@[simp]theorem fJ (b:Nat) (f:iX):(dY h b f).size=h.size:=by
 unfold dY;cases a:h.put b f with
 |none=>rfl
 |some g=>
  obtain⟨c,e,i⟩:=h;have a:(gX (Nat.blt b c) (dW (kO i (Nat.sub (Nat.sub c 1) b) f) λd=> @Bool.rec (λ_=>aa H) (some ⟨c,e,d⟩) (some ⟨c,b,d⟩) (Nat.blt b e)))=some g:=a;have⟨_,a⟩:=dQ.1 a;have⟨d,_,a⟩:=dI.1 a;show g.size=c;cases j:Nat.blt b e<;>rw[j]at a<;>simp only[ar]at a<;>subst a<;>rfl
@[simp]def aeV (b:Nat) (g:iX):Hp (dY h b g)=Hp h:=by
 unfold dY;cases a:h.put b g with
 |none=>rfl
 |some i=>
  obtain⟨d,f,j⟩:=h;have a:(gX (Nat.blt b d) (dW (kO j (Nat.sub (Nat.sub d 1) b) g) λe=> @Bool.rec (λ_=>aa H) (some ⟨d,f,e⟩) (some ⟨d,b,e⟩) (Nat.blt b f)))=some i:=a;have⟨_,a⟩:=dQ.1 a;have⟨e,c,a⟩:=dI.1 a;rw[kR]at c;split at c
  ·simp only[ar]at c;subst c;show Hp i=_;unfold Hp;cases k:Nat.blt b f<;>rw[k]at a<;>simp only[ar]at a<;>subst a<;>simp
  grind
@[simp]def TS (a:Nat):fh h h a=true:=by
 unfold fh;cases h.get a<;>simp
def Bv{b:Nat}{e:iX}(d:h.get b=some e)(f:iX){a:Nat}(c:a≠b):fh h (dY h b f) a=true:=by
 unfold fh;rw[dN d,ao c];cases h.get a<;>simp
def OD(h:H)(a:List T):aa T:=dW (jn h 0 (jS a)) λb=>some (cn b)
@[simp]def Le (a:T) (b:a.ir=true):OD h [a]=qP h a:=by
 cases a<;>first|rfl|(simp[T.ir]at b)
def Jk(a:List T):(dW (jn h 0 (.tuple a)) λc=>some (cn c))=dW (fQ (qP h) a) λb=>some (.tuple b):=by
 show(dW (dW (fQ (kw h 0) a) λb=>some (T.tuple b)) λc=>some (cn c))=_;unfold qP;rw[sj];cases fQ (kw h 0) a with
 |none=>rfl
 |some b=>simp[uQ]
@[simp]def agf (b c:T) (a:List T):OD h (b::c::a)=dW (fQ (qP h) (b::c::a)) λd=>some (.tuple d):=Jk (b::c::a)
def LO(h:H)(a:List T)(b:T):Prop:=Hp h/\OD h a=some b
def Vx(a:List T)(b:T):LO h a b=(Hp h/\OD h a=some b):=rfl
attribute [simp] Vx
end
section
variable {P:ai}{cx:Ctx}{cf:je}{mask:Nat}
def pt:List (Nat×fP)->aj->aa fP
 | [],_=>none
 |(b,d)::c,a=>if a=b then some d else pt c a
def ht:List (Nat×li)->aj->aa li
 | [],_=>none
 |(b,d)::c,a=>if a=b then some d else ht c a
@[simp]def afu (a:aj):pt [] a=none:=id rfl
@[simp]def ad1 (b:Nat) (d:fP) (c:List (Nat×fP)) (a:aj):pt ((b,d)::c) a=if a=b then some d else pt c a:=id rfl
@[simp]def af7 (a:aj):ht [] a=none:=id rfl
@[simp]def aee (b:Nat) (d:li) (c:List (Nat×li)) (a:aj):ht ((b,d)::c) a=if a=b then some d else ht c a:=id rfl
def fk{f:Env->H->Out}(b:Nat)(l:b<9223372036854775808)(d:Nat->fZ->H->Prop){e:iR}
 (m:∀c a h,c<b->binop .add (.int .i64 (c:Int)) (.int .i64 1)=some (.int .i64 ((c:Int)+1))->d c a h->W (f ⟨a,.nil⟩ h) (yD (λg h=>g.tmps= .nil/\d (c+1) g.vars h) e))
 (o:∀a h,d b a h->W (f ⟨a,.nil⟩ h) (yD (λg h=>False) e))
 {j:Nat} (k:b<j) {a:fZ} {h:H} (i:d 0 a h):W (oQ f j ⟨a,.nil⟩ h) e:=by
 refine S7 b d (λc a h n i=>?_) k (aw b) i
 grind [aQ,iz]
def Au{a:Func}(c:x8 ⟨a,mask,false,none⟩=true):∃b,a.body=some b:=by
 unfold x8 at c
 grind
def aao(B:P.follows .mixedOrders=true)(jq:jg P cx){l:aj}{b:Func}{r:DL}(g:Et P cx l b mask r)(x:nY P cx cf){a:List T}{n:T}(hl:mv a=true)(C:a.length<=b.ntmps)(i:Nat)
 (I:∀v,m7 v 0 a->W (jB cx cf i mask r (b.body.getD .skip) ⟨v,.nil⟩ hE) (zU cx mask b.results.toList λt h=>LO h t n)):lf P cx l a n:=by
 have R:∃c,cn c=n/\tL cx cf i b mask false a hE=some (c,hE):=by
  have⟨u,G,_,A⟩:=mS mask b.ntmps 0 a C;have⟨S,y,h,d,K,t,hr,D,f⟩:=Eo (I u A);have d:=qQ _ g.dr _ _ _ d;have⟨w,e⟩:=Au g.ok;rw[e]at d;unfold OD at f;have⟨c,f,s⟩:=dI.1 f;simp only[ar]at s;refine⟨c,s,?_⟩;unfold tL;rw[e];simp only;rw[G,ed];have d:kc cx cf i mask w ⟨u,.nil⟩ ⟨0,0,[]⟩=some (S,y,h):=d;rw[d,ed,ma];have E:=ph hr;rcases K with rfl|rfl<;>(simp only;rw[E,ed];exact I1 D f)
 obtain⟨c,rfl,e⟩:=R;have z:lf P cx l a c:=zv (ls _ hl) λj p q k o m=>
  pW (F:=⟨b,mask,false,none⟩) B jq g.at_ g.ok cf x i a hE c hE e j p q k o m
 intro j p q k h o m;refine(z j p q k h o m).mono λV X ⟨⟨U,L,M,N,O⟩,Q⟩=>?_;exact⟨⟨U,L.cn,M,N,O⟩,Q⟩
