/- TiFz -/
import Derived.Test.YtbappgeamhmmbaaGreatDoorA6
import Derived.KernelRfl
set_option linter.all false
set_option maxRecDepth 100000
set_option maxHeartbeats 0
namespace Go.TI
theorem dz{p:Prop}(h:p:=by kernel_rfl):p:=h
end Go.TI
namespace Go.TI
noncomputable section
section
section
variable {cx:Ctx}{h:H}
@[simp]def afK (a:ak) (b:Int):fz h (.int a b)=some (.int a b):=id rfl
@[simp]def acX (a:Bool):fz h (.bool a)=some (.bool a):=id rfl
@[simp]def afI (a:List Nat):fz h (.str a)=some (.str a):=id rfl
@[simp]def acU:fz h .jQ=some .jQ:=id rfl
@[simp]def abq:fz h .fK=some .fK:=id rfl
@[simp]def acV:fz h .kj=some .kj:=id rfl
@[simp]def Rh (a:List T) (b:Bool):fz h (.Y a b)=some (sl (a.map cn)):=by
 show some (cn (.Y a b))=_;rw[mP]
@[simp]def V5 (a b c d:Nat):fz h (.ptr a b c d)=none:=by
 unfold fz iu;simp
@[simp]def acW (b:aj) (a:List T):fz h (.func b a)=none:=id rfl
@[simp]def ac4 (c:Nat) (a:ak) (b:Int):wn h (c+1) (.int a b)=some (.int a b):=id rfl
@[simp]def abx (b:Nat) (a:Bool):wn h (b+1) (.bool a)=some (.bool a):=id rfl
@[simp]def ac2 (b:Nat) (a:List Nat):wn h (b+1) (.str a)=some (.str a):=id rfl
@[simp]def Ym (a:Nat):wn h (a+1) .fK=some .fK:=id rfl
@[simp]def OK (c:Nat) (a:List T) (b:Bool):wn h (c+1) (.Y a b)=some (sl (a.map cn)):=by
 show some (cn (.Y a b))=_;rw[mP]
@[simp]def Rj (b:Nat) (a:List T):wn h (b+1) (.agg a)=M (fG (wn h b) a) λc=>some (.agg c):=by
 show(M (M (fG (freeze h 0 b) a) λc=>some (T.agg c)) λd=>some (cn d))=_;unfold wn;rw[qQ];cases fG (freeze h 0 b) a with
 |none=>rfl
 |some c=>simp[uk]
def gh(c e b d:Nat)(l:Bool):h.jf (.arr c e b d l)=M (h.get c) λa=>fQ (decide (a.ep=e)) (if a.it=true then none else if b+d<=a.eg.length then some ((a.eg.drop b).take d)else none):=by
 show(M (h.get c) λa=>iI.casesOn a λ_ g _ _ f j=>fQ (Nat.beq g e) (Bool.casesOn f (M (jB b j) λm=>takeN d m) none))=_;cases h.get c with
 |none=>rfl
 |some a=>
  obtain⟨o,g,p,n,f,k⟩:=a;simp only[dS,Bg];congr 1;cases f with
  |true=>rfl
  |false=>
   simp only[cd,bo,lA,m6];by_cases i:b<=k.length
   ·rw[aq i,dS]
    grind
   ·rw[ao i,ao B];rfl
def xu(i a c e d:Nat)(k:Bool):wn h (i+1) (.arr a c e d k)=M (h.jf (.arr a c e d k)) λf=>M (fG (wn h i) f) λb=>some (sl b):=by
 have p:freeze h 0 (i+1) (.arr a c e d k)=fQ (Nat.ble 0 a) (M (h.get a) λg=>iI.casesOn g λ_ j _ exact l m=>
  fQ (Nat.beq j c) (@Bool.rec (λ_=>aa T) (M (M (jB e m) λb=>takeN d b) λf=>M (fG (freeze h 0 i) f) λn=>
   @List.rec T (λ_=>aa T) (@List.rec T (λ_=>aa T) (@Bool.rec (λ_=>aa T) (some T.fK) (some (T.Y [] false)) exact) (λ_ _ _=>some T.fK) m) (λ_ _ _=>some (T.Y n k)) n) none l)):=rfl
 have q:h.jf (.arr a c e d k)=M (h.get a) λg=>iI.casesOn g λ_ j _ _ l m=>fQ (Nat.beq j c) (@Bool.rec (λ_=>aa (List T)) (M (jB e m) λb=>takeN d b) none l):=rfl;unfold wn;rw[p,q];rw[show Nat.ble 0 a=true by simp,il];cases h.get a with
 |none=>rfl
 |some g=>
  obtain⟨r,j,s,o,l,f⟩:=g;simp only[dS];cases Nat.beq j c with
  |false=>rfl
  |true=>
   simp only[il];cases l with
   |true=>rfl
   |false=>
    simp only;cases (M (jB e f) λb=>takeN d b)with
    |none=>rfl
    |some es1=>
     simp only[dS];rw[qQ];cases fG (freeze h 0 i) es1 with
     |none=>rfl
     |some Kb=>
      simp only[dS];cases Kb with
      |nil=>
       cases f with
       |nil=>cases o<;>simp[mP,sl]
       |cons=>simp[sl]
      |cons g b=>simp[mP]
@[simp]def xr (a b e d:Nat) (c:Bool):fz h (.arr a b e d c)=M (h.jf (.arr a b e d c)) λf=>M (fG (wn h 11) f) λg=>some (sl g):=by
 rw[<-xu];unfold fz wn iu;simp only;rw[show Nat.ble 0 a=true by simp]
def Kl(a:List T):cn (sl a)=sl (a.map cn):=by
 cases a with
 |nil=>rfl
 |cons c b=>exact mP (c::b) false
def abp(a:List T):fz h (sl a)=some (sl (a.map cn)):=by cases a<;>first|rfl|exact Rh _ _
def V6(b:Nat)(a:List T):wn h (b+1) (sl a)=some (sl (a.map cn)):=by cases a<;>first|rfl|exact OK b _ _
@[simp]def af8 {d:Type} (a:d->T) (c:List d) (e:∀b,cn (a b)=a b):cn (sl (c.map a))=sl (c.map a):=by
 rw[Kl,cz];congr 2;funext b;grind
@[simp]def afJ {d:Type} (a:d->T) (c:List d) (e:∀b,cn (a b)=a b):fz h (sl (c.map a))=some (sl (c.map a)):=by
 rw[abp,cz];congr 3;funext b;grind
@[simp]def ac3 {d:Type} (e:Nat) (a:d->T) (c:List d) (f:∀b,cn (a b)=a b):wn h (e+1) (sl (c.map a))=some (sl (c.map a)):=by
 rw[V6,cz];congr 3;funext b;grind
@[simp]def Gy {e:Type} (c:T->aa T) (a:e->T) (d:List e) (f:∀b,c (a b)=some (a b)):fG c (d.map a)=some (d.map a):=rS λb g=>by
 grind
@[simp]def Ri (a:List T):qA h (.agg a)=M (fG (fz h) a) λb=>some (.agg b):=by
 show(M (M (fG (iu h 0) a) λb=>some (T.agg b)) λc=>some (cn c))=_;unfold fz;rw[qQ];cases fG (iu h 0) a with
 |none=>rfl
 |some b=>simp[uk]
@[simp]def ac0 (a:ak) (b:Int):qA h (.int a b)=some (.int a b):=id rfl
@[simp]def abv (a:Bool):qA h (.bool a)=some (.bool a):=id rfl
@[simp]def acY (a:List Nat):qA h (.str a)=some (.str a):=id rfl
@[simp]def abt:qA h .jQ=some .jQ:=id rfl
@[simp]def Yl:qA h .fK=some .fK:=id rfl
@[simp]def abr (a:List T) (b:Bool):qA h (.Y a b)=fz h (.Y a b):=id rfl
@[simp]theorem afL (a:List T):qA h (sl a)=fz h (sl a):=by cases a<;>rfl
@[simp]def ac1 (a b e d:Nat) (c:Bool):qA h (.arr a b e d c)=fz h (.arr a b e d c):=id rfl
@[simp]def acZ (a b c d:Nat):qA h (.ptr a b c d)=none:=V5 (h:=h) a b c d
@[simp]def abu (b:aj) (a:List T):qA h (.func b a)=none:=id rfl
@[simp]def ad9:PE h []=some []:=id rfl
@[simp]def abT (b:T) (a:List T):PE h (b::a)=M (qA h b) λd=>M (PE h a) λc=>some (d::c):=id rfl
@[simp]def UT:nT []=true:=by rw[nT]
@[simp]def TK (b:T) (a:List T):nT (b::a)=(jJ b&&nT a):=by rw[nT]
@[simp]def XA (a:ak) (b:Int):jJ (.int a b)=true:=by rw[jJ]
@[simp]def UV (a:Bool):jJ (.bool a)=true:=by rw[jJ]
@[simp]def Xz (a:List Nat):jJ (.str a)=true:=by rw[jJ]
@[simp]def UU (a:List T) (b:Bool):jJ (.Y a b)=true:=by rw[jJ]
@[simp]def TL:jJ .fK=true:=by rw[jJ]
@[simp]def ZM (a:List T):jJ (sl a)=true:=by cases a<;>simp[sl]
@[simp]def XC (a:List T):jJ (.agg a)=nT a:=by rw[jJ]
@[simp]def XB (a b e d:Nat) (c:Bool):jJ (.arr a b e d c)=false:=by simp[jJ]
@[simp]def T2:nW []=true:=by rw[nW]
@[simp]def QH (b:T) (a:List T):nW (b::a)=(lL b&&nW a):=by rw[nW]
@[simp]def Vb (a:ak) (b:Int):lL (.int a b)=true:=by rw[lL]
@[simp]def T3 (a:Bool):lL (.bool a)=true:=by rw[lL]
@[simp]def QJ:lL .fK=true:=by rw[lL]
@[simp]def QI (a:List T):lL (.tuple a)=nW a:=by rw[lL]
@[simp]def J4 (a:List T):my (sl a)=lI a:=by cases a<;>simp[sl]
@[simp]def acH {c:Type} (a:c->T) (b:List c) (d:∀e,my (a e)=true):lI (b.map a)=true:=LG a d b
@[simp]theorem Pe (a:List T):(sl a).cells=[sl a]:=by cases a<;>rfl
@[simp]theorem acS (a:List T):(sl a).fg=true:=by cases a<;>rfl
@[simp]def abl (a b e d:Nat) (c:Bool):(T.arr a b e d c).fg=true:=id rfl
@[simp]def abj (a b c d:Nat):(T.ptr a b c d).fg=true:=id rfl
@[simp]def Yi:T.fK.fg=true:=id rfl
@[simp]def YC (a b e d:Nat) (c:Bool):(T.arr a b e d c).cells=[.arr a b e d c]:=id rfl
@[simp]def YA (a b c d:Nat):(T.ptr a b c d).cells=[.ptr a b c d]:=id rfl
@[simp]def acI (b:Ty) (a:List T) (d:ab) (c:b.u= .slice d):Dk cx h b (sl a)=some (.val (.int .i64 a.length) h):=by cases a<;>simp[sl,c]
@[simp]theorem acQ (c:Ty) (a:List T) (b:Nat):kw h c (sl a) b=M (a[b]?) λd=>fQ (decide (d.cells.length=c.size)) (some (.val (.jh d.cells) h)):=by cases a<;>simp[sl];rfl
@[simp]theorem OD (a:List T):h.jf (sl a)=some a:=by cases a<;>rfl
@[simp]def VM (a:List T) (b:Bool):h.jf (.Y a b)=some a:=id rfl
@[simp]def VL:h.jf .fK=some []:=id rfl
def zh{a b:List T}(c:sl a=sl b):a=b:=by
 cases a<;>cases b<;>simp[sl]at c
 ·rfl
 grind
def jt{f:Type}{a:f->T}(i:∀d e,a d=a e->d=e){b c:List f}(g:sl (b.map a)=sl (c.map a)):b=c:=by
 have:=zh g
 grind [List.map_inj_right]
@[simp]def dO (b:iI) (a:Nat):(h.cons b).get a=if a=h.size then some b else h.get a:=by
 rw[H.get_eq,H.get_eq];show(if a<h.size+1 then(b::h.eZ)[h.size+1-1-a]? else none)=_
 grind
def dF{a:Nat}{x:iI}(k:h.get a=some x)(d:iI)(f:Nat):(dT h a d).get f=if f=a then some d else h.get f:=by
 have c:=uZ k d;generalize dT h a d=g at*
 obtain⟨b,i,e⟩:=h;have l:a<b:=H.ej k;have c:(fQ (Nat.blt a b) (M (kf e (Nat.sub (Nat.sub b 1) a) d) λj=> @Bool.rec (λ_=>aa H) (some ⟨b,i,j⟩) (some ⟨b,a,j⟩) (Nat.blt a i)))=some g:=c;rw[show Nat.blt a b=true by rw[aF];exact l,il,kl]at c;by_cases hl:Nat.sub (Nat.sub b 1) a<e.length
 ·rw[aq hl,dS]at c;have p:g.size=b/\g.eZ=e.set (b-1-a) d:=by
   cases m:Nat.blt a i<;>rw[m]at c<;>simp only[ar]at c<;>subst c<;>exact⟨rfl,rfl⟩
  obtain⟨n,o⟩:=p;rw[H.get_eq,H.get_eq,n,o];have hl:b-1-a<e.length:=hl
  grind
 simp_all[hl,ao]
@[simp]theorem fI (b:Nat) (f:iI):(dT h b f).size=h.size:=by
 unfold dT;cases a:h.put b f with
 |none=>rfl
 |some g=>
  obtain⟨c,e,i⟩:=h;have a:(fQ (Nat.blt b c) (M (kf i (Nat.sub (Nat.sub c 1) b) f) λd=> @Bool.rec (λ_=>aa H) (some ⟨c,e,d⟩) (some ⟨c,b,d⟩) (Nat.blt b e)))=some g:=a;have⟨_,a⟩:=dJ.1 a;have⟨d,_,a⟩:=dB.1 a;show g.size=c;cases j:Nat.blt b e<;>rw[j]at a<;>simp only[ar]at a<;>subst a<;>rfl
@[simp]def aem (b:Nat) (g:iI):Hp (dT h b g)=Hp h:=by
 unfold dT;cases a:h.put b g with
 |none=>rfl
 |some i=>
  obtain⟨d,f,j⟩:=h;have a:(fQ (Nat.blt b d) (M (kf j (Nat.sub (Nat.sub d 1) b) g) λe=> @Bool.rec (λ_=>aa H) (some ⟨d,f,e⟩) (some ⟨d,b,e⟩) (Nat.blt b f)))=some i:=a;have⟨_,a⟩:=dJ.1 a;have⟨e,c,a⟩:=dB.1 a;rw[kl]at c;split at c
  ·simp only[ar]at c;subst c;show Hp i=_;unfold Hp;cases k:Nat.blt b f<;>rw[k]at a<;>simp only[ar]at a<;>subst a<;>simp
  grind
@[simp]def Qy (a:Nat):em h h a=true:=by
 unfold em;cases h.get a<;>simp
def Ap{b:Nat}{e:iI}(d:h.get b=some e)(f:iI){a:Nat}(c:a≠b):em h (dT h b f) a=true:=by
 unfold em;rw[dF d,ao c];cases h.get a<;>simp
def LT(h:H)(a:List T):aa T:=M (iZ h 0 (iz a)) λb=>some (cn b)
@[simp]def V8 (a:T) (b:a.fg=true):LT h [a]=qA h a:=by
 cases a<;>first|rfl|(simp[T.fg]at b)
def G8(a:List T):(M (iZ h 0 (.tuple a)) λc=>some (cn c))=M (fG (qA h) a) λb=>some (.tuple b):=by
 show(M (M (fG (j7 h 0) a) λb=>some (T.tuple b)) λc=>some (cn c))=_;unfold qA;rw[qQ];cases fG (j7 h 0) a with
 |none=>rfl
 |some b=>simp[tN]
@[simp]def afP (b c:T) (a:List T):LT h (b::c::a)=M (fG (qA h) (b::c::a)) λd=>some (.tuple d):=G8 (b::c::a)
def Ju(h:H)(a:List T)(b:T):Prop:=Hp h/\LT h a=some b
def Sg(a:List T)(b:T):Ju h a b=(Hp h/\LT h a=some b):=rfl
attribute [simp] Sg
end
section
variable {P:ai}{cx:Ctx}{cf:iH}{G:Nat}
def pt:List (Nat×ge)->aj->aa ge
 | [],_=>none
 |(b,d)::c,a=>if a=b then some d else pt c a
def ht:List (Nat×kI)->aj->aa kI
 | [],_=>none
 |(b,d)::c,a=>if a=b then some d else ht c a
@[simp]def aeV (a:aj):pt [] a=none:=id rfl
@[simp]def acB (b:Nat) (d:ge) (c:List (Nat×ge)) (a:aj):pt ((b,d)::c) a=if a=b then some d else pt c a:=id rfl
@[simp]def afF (a:aj):ht [] a=none:=id rfl
@[simp]def acR (b:Nat) (d:kI) (c:List (Nat×kI)) (a:aj):ht ((b,d)::c) a=if a=b then some d else ht c a:=id rfl
def fc{f:Env->H->Out}(b:Nat)(l:b<9223372036854775808)(d:Nat->fH->H->Prop){e:iq}
 (m:∀c a h,c<b->binop .add (.int .i64 (c:Int)) (.int .i64 1)=some (.int .i64 ((c:Int)+1))->d c a h->W (f ⟨a,.nil⟩ h) (xn (λg h=>g.tmps= .nil/\d (c+1) g.vars h) e))
 (o:∀a h,d b a h->W (f ⟨a,.nil⟩ h) (xn (λg h=>False) e))
 {j:Nat} (k:b<j) {a:fH} {h:H} (i:d 0 a h):W (nI f j ⟨a,.nil⟩ h) e:=by
 refine PR b d (λc a h n i=>?_) k (aw b) i
 grind [aM,ij]
def yR{a:Func}(c:wM ⟨a,G,false,none⟩=true):∃b,a.body=some b:=by
 unfold wM at c
 grind
def YW(E:P.follows .mixedOrders=true)(iU:iG P cx){l:aj}{b:Func}{r:DL}(g:C4 P cx l b G r)(y:mU P cx cf){a:List T}{n:T}(hl:lI a=true)(I:a.length<=b.ntmps)(i:Nat)
 (N:∀w,mp w 0 a->W (jk cx cf i G r (b.body.getD .skip) ⟨w,.nil⟩ hE) (yw cx G b.results.toList λt h=>Ju h t n)):kH P cx l a n:=by
 have X:∃c,cn c=n/\rZ cx cf i b G false a hE=some (c,hE):=by
  have⟨u,M,_,C⟩:=md G b.ntmps 0 a I;have⟨Y,z,h,d,O,t,hr,K,f⟩:=CZ (N u C);have d:=pJ _ g.dr _ _ _ d;have⟨x,e⟩:=yR g.ok;rw[e]at d;unfold LT at f;have⟨c,f,s⟩:=dB.1 f;simp only[ar]at s;refine⟨c,s,?_⟩;unfold rZ;rw[e];simp only;rw[M,dS];have d:jP cx cf i G x ⟨u,.nil⟩ ⟨0,0,[]⟩=some (Y,z,h):=d;rw[d,dS,lh];have L:=nU hr;rcases O with rfl|rfl<;>(simp only;rw[L,dS];exact GH K f)
 obtain⟨c,rfl,e⟩:=X;have A:kH P cx l a c:=yj (lr _ hl) λj p q k o m=>
  oJ (F:=⟨b,G,false,none⟩) E iU g.at_ g.ok cf y i a hE c hE e j p q k o m
 intro j p q k h o m;refine(A j p q k h o m).mono λv al ⟨⟨ae,Q,R,S,U⟩,V⟩=>?_;exact⟨⟨ae,Q.cn,R,S,U⟩,V⟩
end
end
section
structure Fr(lo:Nat)(h h':H):Prop where
 size:h.size<=h'.size
 hp:Hp h->Hp h'
 get:∀c,c<lo->h'.get c=h.get c
 low:lo<=h.low->lo<=h'.low
def Fr.refl(a:Nat)(h:H):Fr a h h:=⟨au _,id,λ_ _=>rfl,id⟩
def Fr.trans{d:Nat}{h g i:H}(a:Fr d h g)(b:Fr d g i):Fr d h i:=⟨aO a.size b.size,λc=>b.hp (a.hp c),λf j=>(b.get f j).trans (a.get f j),λc=>b.low (a.low c)⟩
theorem Fr.cons{lo:Nat}{h:H}(hl:lo<=h.size)(a:iI):Fr lo h (h.cons a):=⟨J,J,λb c=>by simp;omega,id⟩
def M6(h:H)(b:Nat)(i:iI)(c:Nat)(k:c<=h.low)(n:c<=b):c<=(dT h b i).low:=by
 unfold dT;cases a:h.put b i with
 |none=>exact k
 |some j=>
  obtain⟨d,g,l⟩:=h;have a:(fQ (Nat.blt b d) (M (kf l (Nat.sub (Nat.sub d 1) b) i) λf=> @Bool.rec (λ_=>aa H) (some ⟨d,g,f⟩) (some ⟨d,b,f⟩) (Nat.blt b g)))=some j:=a;have⟨_,a⟩:=dJ.1 a;have⟨f,_,a⟩:=dB.1 a;show c<=j.low;cases m:Nat.blt b g<;>rw[m]at a<;>simp only[ar]at a<;>subst a
  ·exact k
  omega
theorem Fr.put{b:Nat}{h:H}{a:Nat}{x:iI}(g:h.get a=some x)(f:b<=a)(d:iI):Fr b h (dT h a d):=⟨J,J,λc j=>by rw[dF g,ao B],λi=>M6 h a d b i f⟩
def rx(h:H)(g:Nat)(d:T)(i:Nat)(b:List T):Prop:=
 (d= .Y [] false/\b=[])\/∃a c j f,g<=a/\d= .arr a c 0 b.length false/\h.get a=some ⟨i,c,j,f,false,b⟩
theorem rx.nil(h:H)(a b:Nat):rx h a (.Y [] false) b []:= .inl ⟨rfl,rfl⟩
theorem rx.cons{h:H}{lo:Nat}{f:T}{d:Nat}{b:List T}(a:rx h lo f d b)(n:iI):rx (h.cons n) lo f d b:=by
 rcases a with a|⟨g,i,m,j,k,l,c⟩
 ·exact .inl a
 ·have:=H.ej c;exact .inr ⟨g,i,m,j,k,l,by rw[dO,ao B];exact c⟩
theorem rx.fg{h:H}{d:Nat}{a:T}{f:Nat}{b:List T}(c:rx h d a f b):a.fg=true:=by
 rcases c with⟨rfl,_⟩|⟨g,i,m,j,k,rfl,l⟩<;>rfl
theorem rx.cells{h:H}{d:Nat}{a:T}{f:Nat}{b:List T}(c:rx h d a f b):a.cells=[a]:=by
 rcases c with⟨rfl,_⟩|⟨g,i,m,j,k,rfl,l⟩<;>rfl
def rx.fz{h:H}{g:Nat}{d:T}{i:Nat}{b a:List T}(f:rx h g d i b)(c:fG (wn h 11) b=some a):TI.fz h d=some (sl a):=by
 rcases f with⟨rfl,rfl⟩|⟨j,k,o,l,m,rfl,n⟩
 ·have c:some []=some a:=c;simp_all
 simp_all[gh,xr]
def rx.qA{h:H}{i:Nat}{d:T}{j:Nat}{a b:List T}(c:rx h i d j a)(g:fG (wn h 11) a=some b):TI.qA h d=some (sl b):=by
 rw[<-c.fz g];rcases c with⟨rfl,_⟩|⟨k,l,p,m,n,rfl,o⟩<;>rfl
@[simp]theorem XW {cx:Ctx} {G:Nat} {e:Env} {h:H} (a:List ah) (b c:ab):iT (.call ⟨.builtin .append,a.toArray,#[b,c]⟩) cx G e h=M (fG (fq cx G e) a) λd=>(match d with| [f,g]=>iN cx h b c f g|_=>none):=rfl
def m8{b:Nat}{a:List T}(c:∀e∈a,e.cells.length=b):fits b a=true:=by
 cases a with
 |nil=>rfl
 |cons e a=>
  show Nat.beq (kv e.cells) b=true;rw[jz,c e J];simp
def oo{h:H}{b bytes:Nat}{a:List T}(c:∀e∈a,e.cells.length=b)(d:1<=bytes)(f:a.length*bytes<=70368744177664):
 h.ja b bytes [] a=some (.arr h.size 0 0 a.length false,h.cons ⟨b,0,0,false,false,a⟩):=by
 unfold H.ja;rw[pf,dS,jz,gX,dS,m8 c,m8 J];simp_all
def vD{h:H}{f bytes c d i:Nat}{j:Bool}{a b:List T}(g:h.get c=some ⟨f,d,i,j,false,a⟩)(k:∀e∈b,e.cells.length=f)(l:1<=bytes)(m:(a.length+b.length)*bytes<=70368744177664):
 h.ma f bytes c d a.length b=some (.arr c (d+1) 0 (a++b).length false,dT h c ⟨f,d+1,i+1,false,false,a++b⟩):=by
 unfold H.ma;rw[g];simp only[dS,m6,au,bj,aJ,pf,jz,gX,m8 k,uZ g];simp_all
def rx.app{cx:Ctx}{h:H}{k:Nat}{c:T}{a:Nat}{d:List T}(w:rx h k c a d)(v:k<=h.size){q r l:ab}{A C b:Ty}(G:cx.ty q=some A)(I:A.u= .slice l)(K:cx.ty l=some b)(L:cx.ty r=some C)(M:C.u= .slice l)(y:b.size=a)(t:1<=b.bytes)
 {x:T} {xs:List T} (P:h.jf x=some xs) (o:∀e∈xs,e.cells.length=a) (O:(d.length+xs.length)*b.bytes<=70368744177664):
 ∃E m,iN cx h q r c x=some (.val E m)/\rx m k E a (d++xs)/\Fr k h m:=by
 have N:iN cx h q r c x=jl (h.append b.size b.bytes c xs):=by
  unfold iN pS m7;rw[G,dS,L,dS];simp only[I,K,M,P,dS];rw[y,m8 o,il]
 rw[N,y];cases xs with
 |nil=>
  refine⟨c,h,?_,by grind,Fr.refl _ _⟩;show jl (fQ (oa c) (some (c,h)))=_;rcases w with⟨rfl,_⟩|⟨i,j,s,F,_,rfl,_⟩<;>rfl
 |cons f g=>
  rcases w with⟨rfl,rfl⟩|⟨i,j,s,F,z,rfl,p⟩
  ·refine⟨.arr h.size 0 0 (f::g).length false,h.cons ⟨a,0,0,false,false,f::g⟩,?_,.inr ⟨h.size,0,0,false,v,rfl,J⟩,Fr.cons v _⟩;show jl (h.ja a b.bytes [] (f::g))=_;rw[oo o t (by grind)];rfl
  ·refine⟨.arr i (j+1) 0 (d++f::g).length false,dT h i ⟨a,j+1,s+1,false,false,d++f::g⟩,?_,.inr ⟨i,j+1,s+1,false,z,rfl,by rw[dF p,aq rfl]⟩,Fr.put p z _⟩;show jl (h.ma a b.bytes i j d.length (f::g))=_;rw[vD p o t O];rfl
def rx.mQ{cx:Ctx}{h:H}{c:Nat}{o:T}{a:Nat}{i:List T}(s:rx h c o a i)(r:c<=h.size){j k:ab}{n d:Ty}(l:cx.ty j=some n)(m:n.u= .slice k)(p:cx.ty k=some d)(t:d.size=a)(q:1<=d.bytes)
 {e:T} (z:e.cells.length=a) (A:(i.length+1)*d.bytes<=70368744177664):
 ∃g b,iN cx (h.cons ⟨a,0,0,true,false,[e]⟩) j j o (.arr h.size 0 0 1 false)=some (.val g b)/\rx b c g a (i++[e])/\Fr c h b:=by
 have⟨g,b,v,w,y⟩:=(s.cons ⟨a,0,0,true,false,[e]⟩).app (x:= .arr h.size 0 0 1 false) (xs:=[e]) dp l m p l m t q (by rw[gh];simp) (by grind) B;exact⟨g,b,v,w,(Fr.cons r _).trans y⟩
@[simp]def Oy (h:H) (a:iI):(h.cons a).low=h.low:=id rfl
@[simp]def acv:H.size hE=0:=id rfl
@[simp]def afl:H.low hE=0:=id rfl
@[simp]theorem F3 (h:H) (f c:iI) (g:Nat) (j:g=h.size) (hl:h.low<=h.size):dT (h.cons f) g c=h.cons c:=by
 subst j;obtain⟨a,b,d⟩:=h;unfold dT;have:(H.cons ⟨a,b,d⟩ f).put a c=some (H.cons ⟨a,b,d⟩ c):=by
  show(fQ (Nat.blt a (a+1)) (M (kf (f::d) (Nat.sub (Nat.sub (a+1) 1) a) c) λi=> @Bool.rec (λ_=>aa H) (some ⟨a+1,b,i⟩) (some ⟨a+1,a,i⟩) (Nat.blt a b)))=some ⟨a+1,b,c::d⟩;rw[show Nat.blt a (a+1)=true by rw[aF];omega,il,kl,show Nat.sub (Nat.sub (a+1) 1) a=0 by simp];simp only[aY,Nat.zero_lt_succ,bj,cE,dS];rw[show Nat.blt a b=false by rw[bX];intro k;rw[aF]at k;grind]
 rw[this];rfl
@[simp]def acw (h:H) (i d:iI) (a:Nat) (j:a<h.size):dT (h.cons i) a d=(dT h a d).cons i:=by
 obtain⟨b,c,f⟩:=h;have j:a<b:=j;have k:(H.cons ⟨b,c,f⟩ i).put a d=fQ (Nat.blt a (b+1)) (M (kf (i::f) (Nat.sub (Nat.sub (b+1) 1) a) d) λg=> @Bool.rec (λ_=>aa H) (some ⟨b+1,c,g⟩) (some ⟨b+1,a,g⟩) (Nat.blt a c)):=rfl;have l:(⟨b,c,f⟩:H).put a d=fQ (Nat.blt a b) (M (kf f (Nat.sub (Nat.sub b 1) a) d) λg=> @Bool.rec (λ_=>aa H) (some ⟨b,c,g⟩) (some ⟨b,a,g⟩) (Nat.blt a c)):=rfl;unfold dT;rw[k,l,show Nat.blt a (b+1)=true by rw[aF];omega,show Nat.blt a b=true by rw[aF];exact j,il,il,kl,kl,
  show Nat.sub (Nat.sub (b+1) 1) a=Nat.sub (Nat.sub b 1) a+1 by grind]
 by_cases hl:Nat.sub (Nat.sub b 1) a<f.length
 ·rw[aq (by grind),aq hl,dS,dS];cases Nat.blt a c<;>rfl
 simp_all[hl,ao]
def dN(a:List T)(b:Nat)(c:List T):lj (.agg a) b c=M (kc a b c) λd=>some (.agg d):=rfl
attribute [simp] dN
@[simp]def XE (b:ak) (c:Int) (a:T):lj (.int b c) 0 [a]=some a:=id rfl
@[simp]def UX (b:Bool) (a:T):lj (.bool b) 0 [a]=some a:=id rfl
@[simp]def XD (b:List Nat) (a:T):lj (.str b) 0 [a]=some a:=id rfl
@[simp]theorem ZO (a:List T) (b:T):lj (sl a) 0 [b]=some b:=by cases a<;>rfl
@[simp]def UW (b:List T) (c:Bool) (a:T):lj (.Y b c) 0 [a]=some a:=id rfl
@[simp]def XF (b c g f:Nat) (d:Bool) (a:T):lj (.arr b c g f d) 0 [a]=some a:=id rfl
@[simp]def V7 (a:Nat):kW [] a=false:=id rfl
@[simp]theorem Uj (b d a:Nat) (c:List (Nat×Nat)):kW ((b,d)::c) a=(decide (b=a)||kW c a):=by
 unfold kW;rw[List.any_cons];rfl
@[simp]def abf (a b:Nat):zO [] a b=false:=id rfl
@[simp]theorem Yg (c d a b:Nat) (f:List (Nat×Nat)):zO ((c,d)::f) a b=((decide (c=a)&&decide (d=b))||zO f a b):=by
 unfold zO;rw[List.any_cons];rfl
@[simp]def I1 (a:List (Nat×Nat)) (b:Nat) (h:H) (c:List (Nat×Nat)):vm a b h h c=True:=by unfold vm;simp
@[simp]def aaP {f:Type} (a b:Nat) (d:f) (c:List (Nat×f)):List.lookup a ((b,d)::c)=if a=b then some d else List.lookup a c:=by
 rw[List.lookup_cons]
 grind
def Eg(a:T):Nat:=a.cells.length
@[simp]def ad3 (a:ak) (b:Int):Eg (.int a b)=1:=id rfl
@[simp]def abJ (a:Bool):Eg (.bool a)=1:=id rfl
@[simp]def ad2 (a:List Nat):Eg (.str a)=1:=id rfl
@[simp]def abH (a:List T) (b:Bool):Eg (.Y a b)=1:=id rfl
@[simp]def abG:Eg .fK=1:=id rfl
@[simp]def ad4 (a b f d:Nat) (c:Bool):Eg (.arr a b f d c)=1:=id rfl
@[simp]theorem af6 (a:List T):Eg (sl a)=1:=by unfold Eg;rw[Pe];rfl
def Mn(cx:Ctx)(h:H)(c:Ty)(d:T)(f a b:aa Nat):aa kC:=fQ (jm cx h c.u d) (fQ (zI a b) (val h (oE (asSlice c.u d) f a b)))
def XU(cx:Ctx)(G:Nat)(e:Env)(a:aa ah):aa (aa Nat):=jF cx G e a
section
variable {cx:Ctx}{G:Nat}{e:Env}{h:H}
@[simp]def aas:XU cx G e none=some none:=id rfl
@[simp]def aar (a:ah):XU cx G e (some a)=M (fq cx G e a) λc=>M (mZ c) λb=>some (some b):=id rfl
@[simp]def aau (g:ab) (a:ah) (d b c:aa ah):iT (.slice g a d b c) cx G e h=M (cx.ty g) λf=>M (fq cx G e a) λa=>M (XU cx G e d) λd=>M (XU cx G e b) λb=>M (XU cx G e c) λc=>Mn cx h f a d b c:=by
 show(M (cx.ty g) λf=>M (fq cx G e a) λa=>fQ (jm cx h f.u a)<|M (jF cx G e d) λd=>M (jF cx G e b) λb=>M (jF cx G e c) λc=>fQ (zI b c) (val h (oE (asSlice f.u a) d b c)))=_;unfold XU Mn;congr 1;funext f;congr 1;funext a;cases jm cx h f.u a with
 |true=>rfl
 |false=>
  simp only[LX];cases jF cx G e d<;>simp;cases jF cx G e b<;>simp;cases jF cx G e c<;>simp
def RD{d:Type}(c:List d)(b a:Nat)(g:b<=a)(f:a<=c.length):I8 c b a=some ((c.drop b).take (a-b)):=by
 unfold I8;rw[lA,aq B,dS,m6];rw[aq (by grind)];rfl
def MO(d:List T)(a b:Nat)(o:a<=b)(n:b<=d.length)(f c:aa Nat)(k:fT f 0=a)(g:fT c d.length=b):oE (sl d) f c none=some (sl ((d.drop a).take (b-a))):=by
 cases d with
 |nil=>
  have l:b=0:=by grind
  subst l;have m:a=0:=B;subst m;show(fQ (Nat.beq (fT f 0) 0) (fQ (Nat.beq (fT c 0) 0) (some T.fK)))=_;have g:fT c 0=0:=g;rw[k,g];rfl
 |cons j i=>
  show sM (j::i) false (fT f 0) (fT c (kv (j::i))) none=_;rw[jz,k,g];unfold sM;rw[RD _ _ _ o n,dS,show Nat.ble a b=true by simp_all,il];cases (List.take (b-a) (List.drop a (j::i)))<;>rfl
def H4{d i:Ty}{f:ab}(g:d.u= .slice f)(ht:cx.ty f=some i){a:List T}(l:∀j∈a,j.cells.length=i.size){c b:aa Nat}(n:fT c 0<=fT b a.length)(m:fT b a.length<=a.length):
 Mn cx h d (sl a) c b none=some (.val (sl ((a.drop (fT c 0)).take (fT b a.length-fT c 0))) h):=by
 unfold Mn;have k:jm cx h d.u (sl a)=true:=by
  rw[g];unfold jm;simp only[ht];cases a with
  |nil=>rfl
  |cons j o=>exact m8 l
 rw[k,il,show zI b none=true from rfl,il,show asSlice d.u (sl a)=sl a by rw[g];rfl,MO a _ _ n m c b rfl rfl];rfl
@[simp]def aeD {j:Type} (i d:Ty) (g:ab) (a:j->T) (b:List j) (c:Nat) (l:i.u= .slice g) (ht:cx.ty g=some d) (k:∀m,Eg (a m)=d.size) (n:c<=b.length):Mn cx h i (sl (b.map a)) none (some c) none=some (.val (sl ((b.take c).map a)) h):=by
 rw[H4 l ht (by simpa using λf _=>show(a f).cells.length=d.size from k f) (by simp[fT]) (by grind [fT])];simp[fT,List.map_take]
@[simp]def ZJ {j:Type} (i d:Ty) (g:ab) (a:j->T) (b:List j) (c:Nat) (l:i.u= .slice g) (ht:cx.ty g=some d) (k:∀m,Eg (a m)=d.size) (n:c<=b.length):Mn cx h i (sl (b.map a)) (some c) none none=some (.val (sl ((b.drop c).map a)) h):=by
 rw[H4 l ht (by simpa using λf _=>show(a f).cells.length=d.size from k f) (by grind [fT]) (by simp[fT])];simp only[fT,aG,<-List.map_drop];rw[bA J]
@[simp]def acu {k:Type} (j f:Ty) (i:ab) (a:k->T) (d:List k) (c b:Nat) (m:j.u= .slice i) (ht:cx.ty i=some f) (l:∀n,Eg (a n)=f.size) (p:c<=b) (o:b<=d.length):Mn cx h j (sl (d.map a)) (some c) (some b) none=some (.val (sl (((d.drop c).take (b-c)).map a)) h):=by
 rw[H4 m ht (by simpa using λg _=>show(a g).cells.length=f.size from l g) (by grind [fT]) (by grind [fT])];simp[fT,List.map_take,List.map_drop]
@[simp]def JH (g k:Ty) (i:ab) (a c f d b:Nat) (q:Bool) (l:iI) (j:g.u= .slice i) (ht:cx.ty i=some k) (r:h.get a=some l) (s:l.sz=k.size) (n:b<=d):Mn cx h g (.arr a c f d false) none (some b) none=some (.val (.arr a c f b false) h):=by
 unfold Mn;have m:jm cx h g.u (.arr a c f d false)=true:=by
  rw[j];unfold jm;simp_all
 rw[m,il,show zI (some b) none=true from rfl,il,show asSlice g.u (.arr a c f d false)= .arr a c f d false by rw[j];rfl];show val h (fQ (Nat.ble 0 b) (fQ (Nat.ble b d) (M (fU (Nat.add f 0)) λp=>M (fU (Nat.sub b 0)) λo=>some (T.arr a c p o false))))=_;simp[n]
def Yw(cx:Ctx)(h:H)(d b:ab)(c:Ty)(a:T):aa kC:=match c.u with
 | .slice _=>val h (CS cx b a)
 | .str=>(match a with
  | .str _=>val h (conv cx b a)
  |_=>val h (FN cx h d a))
 |_=>val h (conv cx b a)
@[simp]theorem Vu (b a:ab) (c:ah):iT (.convert b a c) cx G e h=M (cx.ty b) λ_=>M (fq cx G e c) λd=>M (cx.ty a) λf=>Yw cx h b a f d:=rfl
def Fc{k d:ab}{b:Ty}{c g:ak}{a:Int}(i:cx.ty d=some b)(f:b.u= .int c)(j:Jv c a=a):Yw cx h k d b (.int g a)=some (.val (.int c a) h):=by
 unfold Yw;rw[f];show val h (M (cx.ty d) λb=>match b.u with
  | .int c=>(match(T.int g a)with| .int _ a=>pj c a|_=>none)
  | .str=>_
  |_=>none)=_
 rw[i,dS,f];simp[pj,j]
@[simp]def ad1 (k c:ab) (b:Ty) (j:ak) (a:Int) (g:cx.ty c=some b) (i:b.u= .int .i64) (d: -9223372036854775808<=a) (f:a<9223372036854775808):Yw cx h k c b (.int j a)=some (.val (.int .i64 a) h):=Fc g i (jD d f)
@[simp]def Q3 (f:ab) (a b:ah):iT (.makeSlice f a b) cx G e h=M (cx.ty f) λd=>(match d.u with
 | .slice g=>M (cx.ty g) λc=>M (fq cx G e a) λa=>M (fq cx G e b) λb=>M (mZ a) λa=>M (mZ b) λb=>
  fQ (decide (1<=c.size))<|fQ (decide (1<=c.bytes))<|fQ (decide (a<=b)) (fQ (decide (b*c.bytes<=70368744177664)) (some (.val (.arr h.size 0 0 a false) (h.cons ⟨c.size,0,0,decide (a=b),false,List.replicate a c.jW⟩))))
 |_=>none):=by
 show(M (cx.ty f) λd=>_)=_;congr 1;funext d;cases d.u<;>first|rfl|skip
 simp
@[simp]def T9 (b:aj) (a:List ah):iT (.makeFunc (.func b) #[] a.toArray) cx G e h=M (fG (fq cx G e) a) λc=>some (.val (.func b c) h):=by
 show(M (py cx G e a) λa=>val h (some (T.func b a)))=_;simp
end
def rx.RZ{cx:Ctx}{h:H}{d:Nat}{q:T}{b:Nat}{k:Type}{a:k->T}{g:List k}(w:rx h d q b (g.map a))(v:d<=h.size){i m:ab}{p f:Ty}(n:cx.ty i=some p)(o:p.u= .slice m)(r:cx.ty m=some f)(y:f.size=b)(s:1<=f.bytes)
 (t:∀x,Eg (a x)=b) (xs:List k) (z:(g.length+xs.length)*f.bytes<=70368744177664):
 ∃j c,iN cx h i i q (sl (xs.map a))=some (.val j c)/\rx c d j b ((g++xs).map a)/\Fr d h c:=by
 have⟨j,c,A,C,E⟩:=w.app (x:=sl (xs.map a)) (xs:=xs.map a) v n o r n o y s J (by simpa using λl _=>show(a l).cells.length=b from t l) (by grind)
 grind
def rx.PF{cx:Ctx}{h:H}{f:Nat}{o:T}{c:Nat}{l:Type}{b:l->T}{i:List l}(w:rx h f o c (i.map b))(v:f<=h.size){j m:ab}{n g:Ty}(p:cx.ty j=some n)(q:n.u= .slice m)(r:cx.ty m=some g)(x:g.size=c)(s:1<=g.bytes)
 (t:∀a,Eg (b a)=c) (a:l) (y:(i.length+1)*g.bytes<=70368744177664):
 ∃k d,iN cx (h.cons ⟨c,0,0,true,false,[b a]⟩) j j o (.arr h.size 0 0 1 false)=some (.val k d)/\rx d f k c ((i++[a]).map b)/\Fr f h d:=by
 have⟨k,d,z,A,C⟩:=w.mQ v p q r x s (e:=b a) (t a) (by grind)
 grind
def rx.fzM{h:H}{j:Nat}{b:T}{k:Nat}{d:Type}{f:d->T}{a:List d}(i:rx h j b k (a.map f))(g:∀c,wn h 11 (f c)=some (f c)):TI.qA h b=some (sl (a.map f)):=i.qA (Gy _ _ _ g)
def Bp{c:ai}{cx:Ctx}{tb:fw}{b:ge}(l:c.follows .mixedOrders=true)(iU:iG c cx){g:aj}{d:Func}{G:Nat}{f:DL}(o:C4 c cx g d G f)(i:b.α->Nat)(hl:∀a,lI (b.A a)=true)(m:∀a,(b.A a).length<=d.ntmps)
 (n:∀a,b.pre a->∀j,mp j 0 (b.A a)->W (jk cx (pK c cx tb) (i a) G f (d.body.getD .skip) ⟨j,.nil⟩ hE) (yw cx G d.results.toList λp h=>Ju h p (b.R a))):b.Ok c cx g:=
 λa k=>YW l iU o (CM c cx tb) (hl a) (m a) (i a) (n a k)
attribute [simp] Pd
end
abbrev pU(a:T)(c:List T)(g:Nat):Prop:=a.cells=c/\Eg a=g/\(∀d e,lj a d e=M (kc c d e) λh=>some (.agg h))/\a.fg=true/\cn a=a/\(∀b,qA b a=some a)/\(∀b f,wn b (f+2) a=some a)/\jJ a=true/\my a=true
def nS{f:Type}{a:f->T}(h:∀d e,a d=a e->d=e){b c:List f}:(sl (b.map a)=sl (c.map a))=(b=c):=propext ⟨jt h,λg=>by rw[g]⟩
def Bj{d:T}{a:List T}{c:Nat}(f:Eg (.agg a)=c:=by rfl)(g:cn (.agg a)= .agg a:=by simp[uk])(h:∀b,qA b (.agg a)=some (.agg a):=by intro _;simp)(i:∀b e,wn b (e+2) (.agg a)=some (.agg a):=by intro _ _;simp)(j:jJ (.agg a)=true:=by simp)(k:my (.agg a)=true:=by simp)(b:d= .agg a:=by rfl):pU d a c:=by subst b;exact⟨rfl,f,λ_ _=>rfl,rfl,g,h,i,j,k⟩
def TJ(c:ak)(a b:List Int):(sl (a.map (T.int c))=sl (b.map (T.int c)))=(a=b):=nS λ_ _ d=>by simpa using d
def ZK(a b:List Bool):(sl (a.map T.bool)=sl (b.map T.bool))=(a=b):=nS λ_ _ c=>by simpa using c
def ZI(a b:List (List Nat)):(sl (a.map T.str)=sl (b.map T.str))=(a=b):=nS λ_ _ c=>by simpa using c
def MH{a b:List Nat}:T.str a=T.str b->a=b:=J 
def Cg{c:ak}{a b:Int}:T.int c a=T.int c b->a=b:=J 
def By{f:Type}{a:f->T}(h:∀d e,a d=a e->d=e)(b c:List f)(g:sl (b.map a)=sl (c.map a)):b=c:=jt h g
def AN(b:U)(a:Nat)(c:T):Ty:=⟨b,1,a,false,[c]⟩
def rE(d:List (Nat×Nat))(c a:Nat)(b:Bool)(e:List T):Ty:=⟨.struct d,c,a,b,e⟩
def MA(d c e a:Nat)(b:Bool)(f:List T):Ty:=⟨.array d c,e,a,b,f⟩
@[simp]def agn (b:U) (a:Nat) (c:T):(AN b a c).size=1/\(AN b a c).bytes=a/\(AN b a c).u=b:=⟨rfl,rfl,rfl⟩
@[simp]def agr (d:List (Nat×Nat)) (a c:Nat) (e:Bool) (b:List T):(rE d a c e b).size=a/\(rE d a c e b).bytes=c/\(rE d a c e b).u= .struct d/\(rE d a c e b).jW= .agg b/\(rE d a c e b).zero=b/\∀f,j4 (rE d a c e b) f=M (takeN a f) λg=>some (.agg g):=⟨rfl,rfl,rfl,rfl,rfl,λ_=>rfl⟩
abbrev MB(a:ak)(b:Nat):Ty:=AN (.int a) b (.int a 0)
abbrev tyB:Ty:=AN .bool 1 (.bool false)
abbrev tyZ:Ty:=AN .str 16 (.str [])
abbrev zf(a:Nat):Ty:=AN (.slice a) 24 (.Y [] false)
abbrev Mm(a:Nat):Ty:=AN (.ptr a) 8 .jQ
@[simp]def agp (d:ak) (c:Nat) (b:T):(AN (.int d) c b).jW=b/\∀a,j4 (AN (.int d) c b) a=a[0]? :=⟨rfl,λa=>ky a 0⟩
@[simp]def agq (c:Nat) (b:T):(AN .bool c b).jW=b/\∀a,j4 (AN .bool c b) a=a[0]? :=⟨rfl,λa=>ky a 0⟩
@[simp]def agl (c:Nat) (b:T):(AN .str c b).jW=b/\∀a,j4 (AN .str c b) a=a[0]? :=⟨rfl,λa=>ky a 0⟩
@[simp]def agm (d c:Nat) (b:T):(AN (.slice d) c b).jW=b/\∀a,j4 (AN (.slice d) c b) a=a[0]? :=⟨rfl,λa=>ky a 0⟩
@[simp]def ago (d c:Nat) (b:T):(AN (.ptr d) c b).jW=b/\∀a,j4 (AN (.ptr d) c b) a=a[0]? :=⟨rfl,λa=>ky a 0⟩
def iP{b:ai}{cx:Ctx}{d:aj}{a:Func}(e:Nat)(c:DL)(f:b.funcs[d]? =some a)(g:wM ⟨a,e,false,none⟩=true:=by kernel_rfl)(h:mv c (a.body.getD .skip)=true:=by kernel_rfl):C4 b cx d a e c:=⟨f,g,h⟩
def gq(cx:Ctx)(c:Func)(f:Nat)(e:Bool):oq:=λb g a d=>rZ cx b g c f e a d
def afH{a:ai}{cx:Ctx}(g:a.follows .mixedOrders=true)(iU:iG a cx){e:aj}{b:Func}{d:Nat}{c:Bool}(f:a.funcs[e]? =some b)(h:wM ⟨b,d,c,none⟩=true:=by kernel_rfl):kS a cx e (gq cx b d c):=oJ (F:=⟨b,d,c,none⟩) g iU f h
end
end Go.TI
namespace Go.Proofs.YtbappgeamhmmbaaGreatDoor
noncomputable section
open Go Go.TI
abbrev FD:Ty:=MB .i64 8
abbrev Eu:Ty:=MB .i64 8
abbrev Zl:Ty:=tyB
abbrev ty5:Ty:=MB .u8 1
abbrev ty9:Ty:=tyZ
abbrev Zw:Ty:=MB .i32 4
abbrev Zv:Ty:=zf 5
abbrev Zu:Ty:=rE [(0,22),(1,22),(2,22),(3,5),(4,5)] 5 80 false [dw,dw,dw,.int .u8 0,.int .u8 0]
abbrev qd:Ty:=zf 3
abbrev Zt:Ty:=rE [(0,3),(1,3),(2,3),(3,3),(4,3),(5,25)] 6 64 false [D 0,D 0,D 0,D 0,D 0,dw]
abbrev Zs:Ty:=zf 109
abbrev Zr:Ty:=zf 153
abbrev Zq:Ty:=zf 155
abbrev Qt:Ty:=zf 9
abbrev Zp:Ty:=zf 157
abbrev Zo:Ty:=rE [(0,28),(1,29),(2,30),(3,31),(4,31),(5,32)] 6 144 false [dw,dw,dw,dw,dw,dw]
abbrev Zn:Ty:=zf 142
abbrev Zm:Ty:=zf 4
abbrev KQ:Ty:=zf 111
abbrev Qr:Ty:=rE [(0,35),(1,3),(2,36),(3,37)] 4 80 false [dw,D 0,dw,dw]
abbrev Qq:Ty:=zf 2
abbrev Zk:Ty:=rE [(0,39),(4,40),(5,40),(6,25)] 7 152 false [dw,D 0,dw,dw,dw,dw,dw]
abbrev UJ:Ty:=zf 106
abbrev Zj:Ty:=rE [(0,34),(6,3),(7,42),(14,43)] 15 328 false [dw,dw,dw,dw,dw,dw,D 0,dw,D 0,dw,dw,dw,dw,dw,dw]
abbrev Zi:Ty:=zf 73
abbrev Zh:Ty:=rE [(0,34),(6,43)] 7 168 false [dw,dw,dw,dw,dw,dw,dw]
abbrev Zg:Ty:=zf 45
abbrev Zf:Ty:=MB .i64 8
abbrev Ze:Ty:=zf 130
abbrev Zd:Ty:=rE [(0,39),(4,63),(5,63),(6,25),(7,36),(8,25)] 9 200 false [dw,D 0,dw,dw,dw,dw,dw,dw,dw]
abbrev Zc:Ty:=rE [(0,65),(9,48)] 10 224 false [dw,D 0,dw,dw,dw,dw,dw,dw,dw,dw]
abbrev Zb:Ty:=zf 69
abbrev Za:Ty:=AN (.map 9 4) 8 (.mw)
abbrev Y9:Ty:=rE [(0,3),(1,3)] 2 16 false [D 0,D 0]
abbrev Y8:Ty:=zf 27
abbrev Y7:Ty:=Mm 85
abbrev Y6:Ty:=rE [(0,22),(1,3)] 2 32 false [dw,D 0]
abbrev Y5:Ty:=zf 228
abbrev Y4:Ty:=rE [(0,39),(4,40),(5,40),(6,91)] 7 152 false [dw,D 0,dw,dw,dw,dw,dw]
abbrev Y3:Ty:=zf 207
abbrev Y2:Ty:=rE [(0,34),(6,96)] 7 168 false [dw,dw,dw,dw,dw,dw,dw]
abbrev TE:Ty:=rE [(0,3),(1,3),(2,3),(3,2),(4,3),(5,25),(6,25)] 7 88 false [D 0,D 0,D 0,D 0,D 0,dw,dw]
abbrev TD:Ty:=rE [(0,9),(1,3),(2,3),(3,4),(4,2)] 5 48 false [.str [],D 0,D 0,.bool false,D 0]
abbrev Al:Ty:=rE [(0,3),(1,3),(2,4)] 3 24 false [D 0,D 0,.bool false]
abbrev TC:Ty:=zf 39
abbrev TB:Ty:=rE [(0,45),(15,113)] 16 352 false [dw,dw,dw,dw,dw,dw,D 0,dw,D 0,dw,dw,dw,dw,dw,dw,dw]
abbrev FL:Ty:=zf 25
abbrev TA:Ty:=MA 2 25 2 48 false (List.replicate 2 (T.Y [] false))
abbrev MD:Ty:=rE [(0,2),(1,4)] 2 16 true [D 0,.bool false]
abbrev Tz:Ty:=AN (.func) 8 (.kj)
abbrev Tx:Ty:=AN (.func) 8 (.kj)
abbrev FK:Ty:=rE [(0,3),(1,25)] 2 32 false [D 0,dw]
abbrev Tu:Ty:=MA 2 63 2 48 false (List.replicate 2 (T.Y [] false))
abbrev Tt:Ty:=zf 256
abbrev Ts:Ty:=zf 198
abbrev Tr:Ty:=rE [(0,144),(1,145)] 2 48 false [dw,dw]
abbrev Tq:Ty:=rE [(0,9),(1,4)] 2 24 false [.str [],.bool false]
abbrev To:Ty:=rE [(0,9),(1,3)] 2 24 false [.str [],D 0]
abbrev Tm:Ty:=rE [(0,3),(1,3),(2,3)] 3 24 false [D 0,D 0,D 0]
abbrev Tl:Ty:=AN (.func) 8 (.kj)
abbrev Tk:Ty:=zf 251
abbrev Tj:Ty:=Mm 188
abbrev Ti:Ty:=rE [(0,183),(1,3)] 2 32 false [dw,D 0]
abbrev Tg:Ty:=Mm 201
abbrev FJ:Ty:=zf 237
abbrev Tf:Ty:=rE [(0,9),(1,3),(2,31),(3,196)] 4 72 false [.str [],D 0,dw,dw]
abbrev Te:Ty:=zf 205
abbrev Td:Ty:=rE [(0,34),(6,31),(7,199),(8,3),(9,3)] 10 208 false [dw,dw,dw,dw,dw,dw,dw,dw,D 0,D 0]
abbrev Tc:Ty:=rE [(0,3),(1,3),(2,3),(3,3),(4,2),(5,3)] 6 48 false [D 0,D 0,D 0,D 0,D 0,D 0]
abbrev Tb:Ty:=rE [(0,3),(1,199)] 2 32 false [D 0,dw]
abbrev Ta:Ty:=AN (.func) 8 (.kj)
abbrev JC:Ty:=rE [(0,3),(1,40),(2,119),(3,3)] 4 64 false [D 0,dw,dw,D 0]
abbrev S9:Ty:=Mm 231
abbrev S8:Ty:=rE [(0,83),(1,3),(2,3),(3,4),(4,4),(5,4),(6,4),(7,31)] 8 56 false [.jQ,D 0,D 0,.bool false,.bool false,.bool false,.bool false,dw]
abbrev S7:Ty:=zf 235
abbrev SZ:Ty:=rE [(0,3),(1,2),(2,9),(3,233)] 4 56 false [D 0,D 0,.str [],dw]
abbrev FI:Ty:=rE [(0,3),(1,3),(2,9),(3,9),(4,233),(5,235),(9,196),(10,196)] 11 176 false [D 0,D 0,.str [],.str [],dw,D 0,D 0,.str [],dw,dw,dw]
abbrev MC:Ty:=MB .u64 8
abbrev SY:Ty:=MB .u64 8
abbrev SX:Ty:=rE [(0,3),(1,9),(2,3)] 3 32 false [D 0,.str [],D 0]
abbrev SW:Ty:=rE [(0,3),(1,3),(2,9),(3,3),(4,2),(5,9)] 6 64 false [D 0,D 0,.str [],D 0,D 0,.str []]
abbrev SU:Ty:=Mm 266
abbrev ST:Ty:=rE [(0,147),(2,3),(3,196),(4,31),(5,31)] 6 128 false [dw,dw,D 0,dw,dw,dw]
abbrev SS:Ty:=MB .i64 8
abbrev SR:Ty:=MB .u32 4
abbrev SQ:Ty:=MA 24 5 24 24 false (List.replicate 24 (T.int .u8 0))
abbrev SP:Ty:=Mm 256
abbrev SO:Ty:=MB .u64 8
abbrev SN:Ty:=Mm 3
abbrev SK:Ty:=MA 20 246 20 160 false (List.replicate 20 (T.int .u64 0))
abbrev SI:Ty:=MA 65 5 65 65 false (List.replicate 65 (T.int .u8 0))
abbrev SH:Ty:=MA 22 9 22 352 false (List.replicate 22 (T.str []))
abbrev SF:Ty:=MA 256 4 256 256 false (List.replicate 256 (T.bool false))
abbrev SE:Ty:=Mm 355
abbrev SD:Ty:=AN (.iface) 16 (.kq)
abbrev SC:Ty:=Mm 237
abbrev SB:Ty:=AN (.func) 8 (.kj)
abbrev SA:Ty:=MA 32 5 32 32 false (List.replicate 32 (T.int .u8 0))
abbrev Sz:Ty:=MA 64 5 64 64 false (List.replicate 64 (T.int .u8 0))
abbrev Sy:Ty:=MB .i64 8
abbrev Sx:Ty:=Mm 398
abbrev Sw:Ty:=MA 256 5 256 256 false (List.replicate 256 (T.int .u8 0))
abbrev Sv:Ty:=rE [(0,5),(1,5)] 2 2 false [.int .u8 0,.int .u8 0]
abbrev Su:Ty:=MA 16 391 32 32 false (List.replicate 32 (T.int .u8 0))
abbrev Ss:Ty:=rE [(0,9),(1,9),(2,361)] 3 48 false [.str [],.str [],.kq]
abbrev Sr:Ty:=Mm 5
abbrev Sq:Ty:=Mm 403
abbrev Sp:Ty:=rE [(0,9)] 1 16 false [.str []]
def iU:Tree Ty:=(.node (.node (.node (.node (.node (.node (.node .nil 2 (FD) .nil) 3 (Eu) (.node .nil 4 (Zl) .nil)) 5 (ty5) (.node (.node .nil 9 (ty9) .nil) 21 (Zw) .nil)) 22 (Zv) (.node (.node (.node .nil 24 (Zu) .nil) 25 (qd) (.node .nil 27 (Zt) .nil)) 28 (Zs) (.node (.node .nil 29 (Zr) .nil) 30 (Zq) .nil))) 31 (Qt) (.node (.node (.node (.node .nil 32 (Zp) .nil) 34 (Zo) (.node .nil 35 (Zn) .nil)) 36 (Zm) (.node (.node .nil 37 (KQ) .nil) 39 (Qr) .nil)) 40 (Qq) (.node (.node (.node .nil 42 (Zk) .nil) 43 (UJ) (.node .nil 45 (Zj) .nil)) 48 (Zi) (.node (.node .nil 55 (Zh) .nil) 57 (Zg) .nil)))) 58 (Zf) (.node (.node (.node (.node (.node .nil 63 (Ze) .nil) 65 (Zd) (.node .nil 69 (Zc) .nil)) 70 (Zb) (.node (.node .nil 71 (Za) .nil) 73 (Y9) .nil)) 81 (Y8) (.node (.node (.node .nil 83 (Y7) .nil) 85 (Y6) (.node .nil 91 (Y5) .nil)) 93 (Y4) (.node (.node .nil 96 (Y3) .nil) 98 (Y2) .nil))) 106 (TE) (.node (.node (.node (.node .nil 109 (TD) .nil) 111 (Al) (.node .nil 113 (TC) .nil)) 115 (TB) (.node (.node .nil 119 (FL) .nil) 120 (TA) .nil)) 130 (MD) (.node (.node (.node .nil 137 (Tz) .nil) 139 (Tx) .nil) 142 (FK) (.node (.node .nil 143 (Tu) .nil) 144 (Tt) .nil))))) 145 (Ts) (.node (.node (.node (.node (.node (.node .nil 147 (Tr) .nil) 153 (Tq) (.node .nil 155 (To) .nil)) 157 (Tm) (.node (.node .nil 178 (Tl) .nil) 183 (Tk) .nil)) 186 (Tj) (.node (.node (.node .nil 188 (Ti) .nil) 195 (Tg) (.node .nil 196 (FJ) .nil)) 198 (Tf) (.node (.node .nil 199 (Te) .nil) 201 (Td) .nil))) 205 (Tc) (.node (.node (.node (.node .nil 207 (Tb) .nil) 210 (Ta) (.node .nil 228 (JC) .nil)) 229 (S9) (.node (.node .nil 231 (S8) .nil) 233 (S7) .nil)) 235 (SZ) (.node (.node (.node .nil 237 (FI) .nil) 244 (MC) .nil) 246 (SY) (.node (.node .nil 251 (SX) .nil) 256 (SW) .nil)))) 264 (SU) (.node (.node (.node (.node (.node .nil 266 (ST) .nil) 286 (SS) (.node .nil 294 (SR) .nil)) 297 (SQ) (.node (.node .nil 305 (SP) .nil) 324 (SO) .nil)) 328 (SN) (.node (.node (.node .nil 331 (SK) .nil) 332 (SI) (.node .nil 352 (SH) .nil)) 355 (SF) (.node (.node .nil 359 (SE) .nil) 361 (SD) .nil))) 365 (SC) (.node (.node (.node (.node .nil 366 (SB) .nil) 373 (SA) (.node .nil 374 (Sz) .nil)) 382 (Sy) (.node (.node .nil 385 (Sx) .nil) 389 (Sw) .nil)) 391 (Sv) (.node (.node (.node .nil 392 (Su) .nil) 398 (Ss) .nil) 400 (Sr) (.node (.node .nil 401 (Sq) .nil) 403 (Sp) .nil))))))
def gl0:List T:=[T.int .u64 1,T.int .u64 10,T.int .u64 100,T.int .u64 1000,T.int .u64 10000,T.int .u64 100000,T.int .u64 1000000,T.int .u64 10000000,T.int .u64 100000000,T.int .u64 1000000000,T.int .u64 10000000000,T.int .u64 100000000000,T.int .u64 1000000000000,T.int .u64 10000000000000,T.int .u64 100000000000000,T.int .u64 1000000000000000,T.int .u64 10000000000000000,T.int .u64 100000000000000000,T.int .u64 1000000000000000000,T.int .u64 10000000000000000000]
def gl1:List T:=[T.str [118,97,114],T.str [118,111,108,97,116,105,108,101],T.str [109,117,116,101,120],T.str [114,119,108,111,99,107],T.str [99,111,110,100],T.str [102,117,116,117,114,101],T.str [116,104,114,101,97,100],T.str [105,102],T.str [101,108,115,101],T.str [119,104,105,108,101],T.str [108,111,99,107],T.str [114,101,97,100],T.str [119,114,105,116,101],T.str [116,114,97,110,115,97,99,116,105,111,110],T.str [97,116,111,109,105,99],T.str [119,97,105,116],T.str [110,111,116,105,102,121],T.str [110,111,116,105,102,121,97,108,108],T.str [115,112,97,119,110],T.str [106,111,105,110],T.str [115,101,116],T.str [103,101,116]]
def gl2:List T:=[T.int .u8 0,T.int .u8 1,T.int .u8 28,T.int .u8 2,T.int .u8 29,T.int .u8 14,T.int .u8 24,T.int .u8 3,T.int .u8 30,T.int .u8 22,T.int .u8 20,T.int .u8 15,T.int .u8 25,T.int .u8 17,T.int .u8 4,T.int .u8 8,T.int .u8 31,T.int .u8 27,T.int .u8 13,T.int .u8 23,T.int .u8 21,T.int .u8 19,T.int .u8 16,T.int .u8 7,T.int .u8 26,T.int .u8 12,T.int .u8 18,T.int .u8 6,T.int .u8 11,T.int .u8 5,T.int .u8 10,T.int .u8 9]
def gl3:List T:=[T.int .u8 0,T.int .u8 1,T.int .u8 56,T.int .u8 2,T.int .u8 57,T.int .u8 49,T.int .u8 28,T.int .u8 3,T.int .u8 61,T.int .u8 58,T.int .u8 42,T.int .u8 50,T.int .u8 38,T.int .u8 29,T.int .u8 17,T.int .u8 4,T.int .u8 62,T.int .u8 47,T.int .u8 59,T.int .u8 36,T.int .u8 45,T.int .u8 43,T.int .u8 51,T.int .u8 22,T.int .u8 53,T.int .u8 39,T.int .u8 33,T.int .u8 30,T.int .u8 24,T.int .u8 18,T.int .u8 12,T.int .u8 5,T.int .u8 63,T.int .u8 55,T.int .u8 48,T.int .u8 27,T.int .u8 60,T.int .u8 41,T.int .u8 37,T.int .u8 16,T.int .u8 46,T.int .u8 35,T.int .u8 44,T.int .u8 21,T.int .u8 52,T.int .u8 32,T.int .u8 23,T.int .u8 11,T.int .u8 54,T.int .u8 26,T.int .u8 40,T.int .u8 15,T.int .u8 34,T.int .u8 20,T.int .u8 31,T.int .u8 10,T.int .u8 25,T.int .u8 14,T.int .u8 19,T.int .u8 9,T.int .u8 13,T.int .u8 8,T.int .u8 7,T.int .u8 6]
def gls:Tree (List T):=(.node (.node (.node .nil 0 (gl0) .nil) 1 (gl1) .nil) 2 (gl2) (.node .nil 3 (gl3) .nil))
def cx:Ctx:={ty:=λb=>iU.find b,fn:=λ_=>none,gl:=λa=>gls.find a}
@[simp]def yJ:cx.ty 2=some FD:=dz
@[simp]def nN:cx.ty 3=some Eu:=dz
@[simp]def OV:cx.ty 4=some Zl:=dz
@[simp]def OT:cx.ty 5=some ty5:=dz
@[simp]def vn:cx.ty 9=some ty9:=dz
@[simp]def af5:cx.ty 21=some Zw:=dz
@[simp]def Wr:cx.ty 22=some Zv:=dz
@[simp]def OY:cx.ty 24=some Zu:=dz
@[simp]def kO:cx.ty 25=some qd:=dz
@[simp]def OX:cx.ty 27=some Zt:=dz
@[simp]def Wq:cx.ty 28=some Zs:=dz
@[simp]def OW:cx.ty 29=some Zr:=dz
@[simp]def Wp:cx.ty 30=some Zq:=dz
@[simp]def pT:cx.ty 31=some Qt:=dz
@[simp]def Wo:cx.ty 32=some Zp:=dz
@[simp]def af4:cx.ty 34=some Zo:=dz
@[simp]def I7:cx.ty 35=some Zn:=dz
@[simp]def Fa:cx.ty 36=some Zm:=dz
@[simp]def CJ:cx.ty 37=some KQ:=dz
@[simp]def Wn:cx.ty 39=some Qr:=dz
@[simp]def oh:cx.ty 40=some Qq:=dz
@[simp]def af3:cx.ty 42=some Zk:=dz
@[simp]def OU:cx.ty 43=some UJ:=dz
@[simp]def Wm:cx.ty 45=some Zj:=dz
@[simp]def Wl:cx.ty 48=some Zi:=dz
@[simp]def af2:cx.ty 55=some Zh:=dz
@[simp]def Wj:cx.ty 57=some Zg:=dz
@[simp]def af1:cx.ty 58=some Zf:=dz
@[simp]def af0:cx.ty 63=some Ze:=dz
@[simp]def afZ:cx.ty 65=some Zd:=dz
@[simp]def afY:cx.ty 69=some Zc:=dz
@[simp]def afX:cx.ty 70=some Zb:=dz
@[simp]def afW:cx.ty 71=some Za:=dz
@[simp]def Wi:cx.ty 73=some Y9:=dz
@[simp]def afV:cx.ty 81=some Y8:=dz
@[simp]def afU:cx.ty 83=some Y7:=dz
@[simp]def afT:cx.ty 85=some Y6:=dz
@[simp]def OS:cx.ty 91=some Y5:=dz
@[simp]def afS:cx.ty 93=some Y4:=dz
@[simp]def Wh:cx.ty 96=some Y3:=dz
@[simp]def afR:cx.ty 98=some Y2:=dz
@[simp]def Ki:cx.ty 106=some TE:=dz
@[simp]def RC:cx.ty 109=some TD:=dz
@[simp]def Bb:cx.ty 111=some Al:=dz
@[simp]def RB:cx.ty 113=some TC:=dz
@[simp]def ad0:cx.ty 115=some TB:=dz
@[simp]def RA:cx.ty 119=some FL:=dz
@[simp]def adZ:cx.ty 120=some TA:=dz
@[simp]def adY:cx.ty 130=some MD:=dz
@[simp]def adX:cx.ty 137=some Tz:=dz
@[simp]def adW:cx.ty 139=some Tx:=dz
@[simp]def Fb:cx.ty 142=some FK:=dz
@[simp]def adV:cx.ty 143=some Tu:=dz
@[simp]def adU:cx.ty 144=some Tt:=dz
@[simp]def Rz:cx.ty 145=some Ts:=dz
@[simp]def adT:cx.ty 147=some Tr:=dz
@[simp]def Kh:cx.ty 153=some Tq:=dz
@[simp]def Ry:cx.ty 155=some To:=dz
@[simp]def Rx:cx.ty 157=some Tm:=dz
@[simp]def adS:cx.ty 178=some Tl:=dz
@[simp]def adR:cx.ty 183=some Tk:=dz
@[simp]def adQ:cx.ty 186=some Tj:=dz
@[simp]def adP:cx.ty 188=some Ti:=dz
@[simp]def adO:cx.ty 195=some Tg:=dz
@[simp]def yK:cx.ty 196=some FJ:=dz
@[simp]def Rw:cx.ty 198=some Tf:=dz
@[simp]def Kg:cx.ty 199=some Te:=dz
@[simp]def adN:cx.ty 201=some Td:=dz
@[simp]def Rv:cx.ty 205=some Tc:=dz
@[simp]def Ru:cx.ty 207=some Tb:=dz
@[simp]def adM:cx.ty 210=some Ta:=dz
@[simp]def Kf:cx.ty 228=some JC:=dz
@[simp]def adL:cx.ty 229=some S9:=dz
@[simp]def adK:cx.ty 231=some S8:=dz
@[simp]def adJ:cx.ty 233=some S7:=dz
@[simp]def adI:cx.ty 235=some SZ:=dz
@[simp]def yI:cx.ty 237=some FI:=dz
@[simp]def Rt:cx.ty 244=some MC:=dz
@[simp]def adH:cx.ty 246=some SY:=dz
@[simp]def adG:cx.ty 251=some SX:=dz
@[simp]def adF:cx.ty 256=some SW:=dz
@[simp]def adE:cx.ty 264=some SU:=dz
@[simp]def adD:cx.ty 266=some ST:=dz
@[simp]def adC:cx.ty 286=some SS:=dz
@[simp]def adB:cx.ty 294=some SR:=dz
@[simp]def adA:cx.ty 297=some SQ:=dz
@[simp]def adz:cx.ty 305=some SP:=dz
@[simp]def ady:cx.ty 324=some SO:=dz
@[simp]def adx:cx.ty 328=some SN:=dz
@[simp]def adw:cx.ty 331=some SK:=dz
@[simp]def adv:cx.ty 332=some SI:=dz
@[simp]def adu:cx.ty 352=some SH:=dz
@[simp]def adt:cx.ty 355=some SF:=dz
@[simp]def ads:cx.ty 359=some SE:=dz
@[simp]def adr:cx.ty 361=some SD:=dz
@[simp]def adq:cx.ty 365=some SC:=dz
@[simp]def adp:cx.ty 366=some SB:=dz
@[simp]def ado:cx.ty 373=some SA:=dz
@[simp]def adn:cx.ty 374=some Sz:=dz
@[simp]def adm:cx.ty 382=some Sy:=dz
@[simp]def adl:cx.ty 385=some Sx:=dz
@[simp]def adk:cx.ty 389=some Sw:=dz
@[simp]def adj:cx.ty 391=some Sv:=dz
@[simp]def adi:cx.ty 392=some Su:=dz
@[simp]def adh:cx.ty 398=some Ss:=dz
@[simp]def adg:cx.ty 400=some Sr:=dz
@[simp]def adf:cx.ty 401=some Sq:=dz
@[simp]def ade:cx.ty 403=some Sp:=dz
