/- DFun -/
import Derived.Test.YtbappgeamhmmbaaGreatDoorA7
import Derived.Test.YtbappgeamhmmbaaGreatDoorProg
set_option linter.all false
set_option maxRecDepth 100000
set_option maxHeartbeats 0
namespace Go.Proofs.YtbappgeamhmmbaaGreatDoor
noncomputable section
open Go Go.TI Tryz
def iB:prog.follows .mixedOrders=true:=dz
def UH:iU.Qm λb a=>UI prog b a.cmp=some a:=by
 unfold iU;repeat' first|exact .nil|refine .node ?_ dz ?_
def gW:iG prog cx:=⟨λb c a=>⟨_,UH.find a⟩⟩
end
end Go.Proofs.YtbappgeamhmmbaaGreatDoor
namespace Go.TI
noncomputable section
section
def hr(a:H):H:=⟨a.size,a.size,a.eZ⟩
@[simp]def nh (a:H):(hr a).size=a.size:=id rfl
@[simp]def gu (a:H) (b:Nat):(hr a).get b=a.get b:=H.qz a a.size b
@[simp]def abg (a:H):Hp (hr a)=Hp a:=id rfl
def KF(f:Bool)(c:H)(g:List T)(e:H)(d:T->H->Prop):Prop:=∃b a,qR f c.size c.low (iz g) e=some (b,a)/\(d b a\/d (cn b) a)
section
variable {P:ai}{cx:Ctx}{cf:iH}{G:Nat}
def YX(O:P.follows .mixedOrders=true)(iU:iG P cx){m:aj}{a:Func}{r:DL}(h:C4 P cx m a G r)(E:mU P cx cf)(i:Bool){b:List T}{c:H}{u:T->H->Prop}(Q:b.length<=a.ntmps)(j:Nat)
 (X:∀z,mp z 0 b->W (jk cx cf j G r (a.body.getD .skip) ⟨z,.nil⟩ (hr c)) (yw cx G a.results.toList λt f=>KF i c t f u)):∃d f,u d f/\oU P cx ⟨m,b,c,d,f⟩:=by
 have⟨y,V,_,L⟩:=md G a.ntmps 0 b Q;have⟨x,I,K,e,Y,t,S,d,g,hl,hp⟩:=CZ (X y L);have e:=pJ _ h.dr _ _ _ e;have⟨C,s⟩:=yR h.ok;rw[s]at e;have M:rZ cx cf j a G i b c=some (d,g):=by
  unfold rZ;rw[s];obtain⟨w,aE,A⟩:=c;simp only;rw[V,dS];have e:jP cx cf j G C ⟨y,.nil⟩ ⟨w,w,A⟩=some (x,I,K):=e;rw[e,dS,lh];have U:=nU S;rcases Y with rfl|rfl<;>(simp only;rw[U,dS];exact hl)
 have R:wM ⟨a,G,i,none⟩=true:=h.ok;have N:oU P cx ⟨m,b,c,d,g⟩:=λk p q l o n=>oJ (F:=⟨a,G,i,none⟩) O iU h.at_ R cf E j b c d g M k p q l o n;rcases hp with hp|hp
 ·grind
 ·exact⟨cn d,g,hp,λk p q l o n=>(N k p q l o n).mono λv aN ⟨⟨aA,ae,al,an,ap⟩,av⟩=>⟨⟨aA,ae.cn,al,an,ap⟩,av⟩⟩
def HP{tb:fw}{c:kI}(l:P.follows .mixedOrders=true)(iU:iG P cx){f:aj}{d:Func}{e:DL}(o:C4 P cx f d G e)(i:Bool)(j:List T->H->Nat)(m:∀a b,c.pre a b->a.length<=d.ntmps)
 (n:∀a b,c.pre a b->∀k,mp k 0 a->W (jk cx (pK P cx tb) (j a b) G e (d.body.getD .skip) ⟨k,.nil⟩ (hr b)) (yw cx G d.results.toList λp g=>KF i b p g (c.post a b))):c.Ok P cx f:=
 λa b h=>by
  have⟨s,g,q,r⟩:=YX l iU o (CM P cx tb) i (m a b h) (j a b) (n a b h)
  grind
end
def UG{P:ai}{cx:Ctx}{cf:iH}{G:Nat}(N:P.follows .mixedOrders=true)(iU:iG P cx){p:aj}{c:Func}{y:DL}(j:C4 P cx p c G y)(I:mU P cx cf){b:List T}{m:T->Prop}(hl:lI b=true)(A:b.length<=c.ntmps)(k:Nat)
 (R:∀f,mp f 0 b->W (jk cx cf k G y (c.body.getD .skip) ⟨f,.nil⟩ hE) (yw cx G c.results.toList λE g=>∃a,m a/\Ju g E a)):∃a,m a/\kH P cx p b a:=by
 have al:∃a,m a/\∀f,mp f 0 b->TI.dG f 0=TI.dG f 0->∃d,cn d=a/\rZ cx cf k c G false b hE=some (d,hE):=by
  have⟨l,C,_,s⟩:=md G c.ntmps 0 b A;have⟨x,K,g,e,S,E,hr,a,r,O,i⟩:=CZ (R l s);have e:=pJ _ j.dr _ _ _ e;have⟨H,h⟩:=yR j.ok;rw[h]at e;unfold LT at i;have⟨d,i,z⟩:=dB.1 i;simp only[ar]at z;refine⟨a,r,λ_ _ _=>⟨d,z,?_⟩⟩;unfold rZ;rw[h];simp only;rw[C,dS];have e:jP cx cf k G H ⟨l,.nil⟩ ⟨0,0,[]⟩=some (x,K,g):=e;rw[e,dS,lh];have Q:=nU hr;rcases S with rfl|rfl<;>(simp only;rw[Q,dS];exact GH O i)
 obtain⟨a,r,M⟩:=al;have⟨l,C,_,s⟩:=md G c.ntmps 0 b A;obtain⟨d,rfl,h⟩:=M l s rfl;refine⟨cn d,r,?_⟩;have L:kH P cx p b d:=yj (lr _ hl) λn u w o t q=>
  oJ (F:=⟨c,G,false,none⟩) N iU j.at_ j.ok cf I k b hE d hE h n u w o t q
 intro n u w o g t q;refine(L n u w o g t q).mono λv ap ⟨⟨an,U,V,X,Y⟩,ae⟩=>?_;exact⟨⟨an,U.cn,V,X,Y⟩,ae⟩
def FE(b:T):Prop:=∃a,b= .bool a
def vf(a:Nat)(d:T)(b:H):mN a d b=some (d,⟨b.size,if b.low<a then b.low else a,b.eZ⟩):=by
 obtain⟨f,c,e⟩:=b;show @Bool.rec (λ_=>aa (T×H)) (some (d,⟨f,a,e⟩)) (some (d,⟨f,c,e⟩)) (Nat.blt c a)=_;by_cases hl:c<a
 ·rw[show Nat.blt c a=true by rw[aF];exact hl,aq hl]
 ·rw[show Nat.blt c a=false by rw[bX];intro g;rw[aF]at g;omega,ao hl]
def G6{h:H}(f:Hp h){a d:Nat}(e:a<=h.size){b:Nat}(c:b<a):(⟨a,d,h.eZ.drop (h.size-a)⟩:H).get b=h.get b:=by
 rw[H.get_eq,H.get_eq];simp only;rw[aq c,aq B,bJ]
 grind
def pF(a b:H)(j:List T){r:T}{k:T->H->Prop}(t:Hp a)(c:Fr a.size (hr a) b)(f:(M (iZ b a.size (iz j)) λq=>some (cn q))=some r)(n:k r a):KF false a j b k:=by
 have⟨p,f,i⟩:=dB.1 f;simp only[ar]at i;unfold KF qR;simp only[f];have u:Hp b:=c.hp (by simp_all);have m:a.size<=b.low:=c.low (au _);have s:a.size<=b.size:=c.size;have e:b.eZ.drop (b.size-a.size)=a.eZ:=by
  apply cN;intro d;rw[bJ];rcases aM d a.size with hi|hi
  ·have h:=c.get (a.size-1-d) B;rw[gu,H.get_eq,H.get_eq,aq B,aq B]at h;rw[show b.size-a.size+d=b.size-1-(a.size-1-d)by omega,h]
   grind
  grind [Hp,bL]
 obtain⟨l,o,g⟩:=b;unfold tq;simp only;rw[lA,aq (by grind [Hp]),dS,show Nat.ble a.size o=true from bR m];refine⟨p,_,rfl,.inr ?_⟩;rw[i];have:(⟨a.size,a.low,List.drop (Nat.sub l a.size) g⟩:H)=a:=by
  have e:List.drop (Nat.sub l a.size) g=a.eZ:=e;rw[e]
 rw[this];exact n
end
section
noncomputable section
variable {cx:Ctx}{G:Nat}{e:Env}{h:H}
def nsK(h:H)(i:T):aa kC:=match i with
 | .iter d=>M (h.get d) λa=>fQ a.it (match a.eg with
  | [.str c,.int _ (.ofNat b)]=>if b<c.length then
   (M (u6 c b) λg=>two g λf wd=>some (.val (.tuple [.bool true,.int .i64 (.ofNat b),.int .i32 (.ofNat f)]) (dT h d ⟨a.sz,a.ep,a.ver+1,a.exact,true,[.str c,.int .i64 (.ofNat (b+wd))]⟩)))else some (.val (.tuple [.bool false]) h)
  |_=>none)
 |_=>none
@[simp]theorem aav (x:ah):iT (.next x true) cx G e h=M (fq cx G e x) λg=>nsK h g:=by
 show vk x cx G e h=_;unfold vk nsK;congr 1;funext g;cases g<;>first|rfl|skip
 rename_i i;simp only;cases j:h.get i with
 |none=>rfl
 |some x=>
  simp only[dS];congr 1;split
  ·rename_i c a b f;rw[jz,f];simp only;by_cases d:b<c.length
   ·rw[aq d,show Nat.blt b c.length=true by rw[aF];exact d];simp only;congr 1;funext l;obtain⟨m,wd⟩:=l;simp only[km,gX,dS,uZ j];rfl
   ·rw[ao d,show Nat.blt b c.length=false by rw[bX];intro a;rw[aF]at a;exact d a]
  ·rename_i k;split
   ·rename_i c a b f;exact absurd f (k c a b)
   ·rfl
end
end
section
structure gH(n:Nat)(h:H):Prop where
 hp:Hp h
 low:h.low<=h.size
 sz:n<=h.size
theorem gH.cons{c:Nat}{b:H}(a:gH c b)(d:iI):gH c (b.cons d):=⟨by simpa using a.hp,by simp only[Oy];have:=a.low;grind [H.cons],by have:=a.sz;grind [H.cons]⟩
def gH.ne{c:Nat}{a:H}(d:gH c a){b:Nat}(e:b<c):(b=a.size)=False:=by have:=d.sz;grind
def F4(c:H)(b:Nat)(g:iI):(dT c b g).low<=c.low:=by
 unfold dT;cases a:c.put b g with
 |none=>simp
 |some h=>
  obtain⟨e,d,j⟩:=c;have a:(fQ (Nat.blt b e) (M (kf j (Nat.sub (Nat.sub e 1) b) g) λf=> @Bool.rec (λ_=>aa H) (some ⟨e,d,f⟩) (some ⟨e,b,f⟩) (Nat.blt b d)))=some h:=a;have⟨_,a⟩:=dJ.1 a;have⟨f,_,a⟩:=dB.1 a;show h.low<=d;cases i:Nat.blt b d<;>rw[i]at a<;>simp only[ar]at a<;>subst a
  ·simp
  ·rw[aF]at i;grind
theorem gH.put{n:Nat}{a:H}(b:gH n a)(d:Nat)(e:iI):gH n (dT a d e):=⟨by simpa using b.hp,by rw[fI];exact aO (F4 a d e) b.low,by rw[fI];exact b.sz⟩
structure pM(sz:Nat)(h h':H):Prop where
 get:∀c x,h.get c=some x->x.sz≠sz->h'.get c=some x
 ok:∀n,gH n h->gH n h'
 size:h.size<=h'.size
def pM.refl(d:Nat)(a:H):pM d a a:=⟨λ_ _ b _=>b,λ_ c=>c,au _⟩
def pM.trans{c:Nat}{e f g:H}(a:pM c e f)(b:pM c f g):pM c e g:=⟨λd j k h=>b.get d j (a.get d j k h) h,λi l=>b.ok i (a.ok i l),aO a.size b.size⟩
theorem pM.cons(e:Nat)(a:H)(c:iI):pM e a (a.cons c):=⟨λf h b _=>by have:=H.ej b;rw[dO,ao B];exact b,λg d=>d.cons c,J⟩
theorem pM.put{d:Nat}{b:H}{a:Nat}{x:iI}(f:b.get a=some x)(i:x.sz=d)(e:iI):pM d b (dT b a e):=⟨λc k h j=>by
 rw[dF f]
 grind,λn g=>g.put a e,J⟩
def rx.abU{cx:Ctx}{a:H}{d:T}{b:Nat}{e:List T}(r:rx a 0 d b e){n o j:ab}{t v c:Ty}(A:cx.ty n=some t)(C:t.u= .slice j)(E:cx.ty j=some c)(F:cx.ty o=some v)(G:v.u= .slice j)(s:c.size=b)(q:1<=c.bytes)
 {x:T} {xs:List T} (L:a.jf x=some xs) (l:∀y∈xs,y.cells.length=b) (K:(e.length+xs.length)*c.bytes<=70368744177664):
 ∃w k,iN cx a n o d x=some (.val w k)/\rx k 0 w b (e++xs)/\pM b a k:=by
 have I:iN cx a n o d x=jl (a.append c.size c.bytes d xs):=by
  unfold iN pS m7;rw[A,dS,F,dS];simp only[C,E,G,L,dS];rw[s,m8 l,il]
 rw[I,s];cases xs with
 |nil=>
  refine⟨d,a,?_,by grind,pM.refl _ _⟩;show jl (fQ (oa d) (some (d,a)))=_;rcases r with⟨rfl,_⟩|⟨h,i,p,z,_,rfl,_⟩<;>rfl
 |cons f g=>
  rcases r with⟨rfl,rfl⟩|⟨h,i,p,z,M,rfl,m⟩
  ·refine⟨.arr a.size 0 0 (f::g).length false,a.cons ⟨b,0,0,false,false,f::g⟩,?_,.inr ⟨a.size,0,0,false,aw _,rfl,J⟩,pM.cons _ _ _⟩;show jl (a.ja b c.bytes [] (f::g))=_;rw[oo l q (by grind)];rfl
  ·refine⟨.arr h (i+1) 0 (e++f::g).length false,dT a h ⟨b,i+1,p+1,false,false,e++f::g⟩,?_,.inr ⟨h,i+1,p+1,false,M,rfl,by rw[dF m,aq rfl]⟩,pM.put m rfl _⟩;show jl (a.ma b c.bytes h i e.length (f::g))=_;rw[vD m l q K];rfl
def rx.Us{cx:Ctx}{f:H}{o:T}{b:Nat}{i:Type}{a:i->T}{e:List i}(s:rx f 0 o b (e.map a)){g k:ab}{n d:Ty}(l:cx.ty g=some n)(m:n.u= .slice k)(p:cx.ty k=some d)(t:d.size=b)(q:1<=d.bytes)
 (r:∀x,Eg (a x)=b) (xs:List i) (v:(e.length+xs.length)*d.bytes<=70368744177664):
 ∃h c,iN cx f g g o (sl (xs.map a))=some (.val h c)/\rx c 0 h b ((e++xs).map a)/\pM b f c:=by
 have⟨h,c,w,y,z⟩:=s.abU (x:=sl (xs.map a)) (xs:=xs.map a) l m p l m t q J (by simpa using λj _=>show(a j).cells.length=b from r j) (by grind)
 grind
def rx.Jn{cx:Ctx}{c:H}{n:T}{a:Nat}{i:Type}{b:i->T}{g:List i}(r:rx c 0 n a (g.map b)){h j:ab}{m e:Ty}(k:cx.ty h=some m)(l:m.u= .slice j)(o:cx.ty j=some e)(s:e.size=a)(p:1<=e.bytes)
 (q:∀x,Eg (b x)=a) (x:i) (y:(g.length+1)*e.bytes<=70368744177664):
 ∃f d,iN cx (c.cons ⟨a,0,0,true,false,[b x]⟩) h h n (.arr c.size 0 0 1 false)=some (.val f d)/\rx d 0 f a ((g++[x]).map b)/\pM a c d:=by
 have⟨f,d,t,v,w⟩:=(r.cons ⟨a,0,0,true,false,[b x]⟩).abU (x:= .arr c.size 0 0 1 false) (xs:=[b x]) k l o k l s p (by rw[gh];simp) (by simpa using show(b x).cells.length=a from q x) (by grind);exact⟨f,d,t,by rw[List.map_append];exact v,(pM.cons _ _ _).trans w⟩
def yU{i:Env->H->Out}(b:Nat)(e:Nat->fH->H->Prop){h:iq}
 (n:∀k c a,k<=b->e k c a->W (i ⟨c,.nil⟩ a) (xn (λd a=>d.tmps= .nil/\∃f,k<f/\f<=b/\e f d.vars a) h)) {g:Nat} (o:b<g) {k:Nat} (l:k<=b) {c:fH} {a:H} (j:e k c a):W (nI i g ⟨c,.nil⟩ a) h:=by
 refine PP (σ:=Nat) (I:=λk d a=>k<=b/\d.tmps= .nil/\e k d.vars a) (m:=λk=>b-k) ?_ g k _ _ B ⟨l,rfl,j⟩;rintro k ⟨c,p⟩ a ⟨l,ht,j⟩
 grind
section
variable {cx:Ctx}
@[simp]def Ro (c:Nat) (a b:List T):eqFields cx [] c a b=some true:=id rfl
@[simp]def XJ (a:ak):(U.int a).plain=true:=id rfl
@[simp]def XI:U.str.plain=true:=id rfl
@[simp]def Va:U.bool.plain=true:=id rfl
end
end
section
section
variable {P:ai}{cx:Ctx}
def Pf{f:aj}{u:List T}{b c:H}{K L:T}(S:oU P cx ⟨f,u,b,K,c⟩)(al:Hp c)(C:b.size<=c.size)
 (U:∀a h,a<b.size->c.get a=some h->c.get a=b.get a\/∀o∈eY h.eg,oR b.size o) (V:iZ c b.size K=some L):
 oU P cx ⟨f,u,b,cn L,⟨b.size,c.low,c.eZ.drop (c.size-b.size)⟩⟩:=by
 intro N w s O r j;refine(S N w s O r j).mono λo aA ⟨⟨t,an,G,g,l⟩,q⟩=>?_;have x:∀a e,s a=some e->a<b.size:=λa e d=>r.ej d;have l:xJ s t b.size c.size:=l;have hl:∀a e h,a<b.size->t a=some e->c.get a=some h->∀o∈eY h.eg,oR b.size o:=by
  intro a e h d j E;rcases U a h d E with he|he
  ·rcases l.2.1 a (by rw[j];simp)with k|k
   ·have⟨M,R⟩:=Option.ne_none_iff_exists'.1 k;have⟨aE,p,ae⟩:=r.box a M R;rw[<-he,E]at p;simp only[ar]at p;subst p;exact ae.low x
   ·omega
  omega
 have v:=St.cut (low:=c.low) G C hl;have z:∀a,a<b.size->(⟨b.size,c.low,c.eZ.drop (c.size-b.size)⟩:H).get a=c.get a:=λa d=>G6 al C d;refine⟨⟨lZ b.size t,(uu G an V).cn,v,⟨⟨g.ext.size,λi W Y=>?_,λa e d=>?_,g.ext.mt,g.ext.kept⟩,g.os,g.tape,g.output⟩,au _,λa d=>?_,λa I m=>absurd I (by show¬b.size<=a;have m:a<b.size:=m;omega)⟩,?_⟩
 ·have⟨ap,av⟩:=g.ext.mV i W Y
  grind [wa]
 ·rw[tL (x a e d)];exact g.ext.mu a e d
 ·left;have⟨e,j⟩:=Option.ne_none_iff_exists'.1 d;have⟨I,m⟩:=jT j;rcases l.2.1 a (by rw[m];simp)with k|k
  ·exact k
  ·omega
 ·refine⟨v.wf,au _,q.low,λa d X=>?_,λa y F=>?_⟩
  ·rw[z a d];exact q.jV a d X
  ·rw[z a (H.ej F)];exact q.ver a y F
def IT{c d:H}(e:∀a,d.get a=c.get a)(n:Nat):∀b,freeze d n b=freeze c n b:=by
 grind [freeze,fG,M,takeN,jB,Nat.beq,fQ,Nat.ble]
def sr{a b:H}(i:∀e,b.get e=a.get e)(n:Nat)(c:T):iZ b n c=iZ a n c:=by
 have g:iu b n=iu a n:=by funext d;cases d<;>(unfold iu;simp only[IT i])
 have h:j7 b n=j7 a n:=by funext d;cases d<;>(unfold j7;simp only[g])
 cases c<;>(unfold iZ;simp only[h])
end
def FT(e:H)(c:Nat->Prop):Nat->T->T->Prop
 |0,_,_=>False
 |d+1,a,g=>(jJ a=true/\(∀b,a≠ .agg b)/\g=cn a)\/
  (∃h l o m f j k,a= .arr h l o m f/\c h/\e.jf a=some j/\ir (FT e c d) j k/\g=sl k)\/
  (∃b i,a= .agg b/\ir (FT e c d) b i/\g= .agg i)
def ir.imp_mem{α h:Type}{d R':α->h->Prop}{c:List α}{g:List h}(i:ir d c g)(e:∀a∈c,∀b,d a b->R' a b):ir R' c g:=by
 induction i with
 |nil=>exact .nil
 |cons a _ j=>exact .cons (e _ J _ a) (j λk l b=>e k (by grind) b)
def pA{α d:Type}{f:α->aa d}{b:List α}{c:List d}(g:ir (λa e=>f a=some e) b c):fG f b=some c:=by
 induction g with
 |nil=>rfl
 |cons a _ h=>rw[jp,a,h];rfl
def FT.wn{h:H}{V:Nat->Prop}:∀{d:Nat} {v t:T},FT h V d v t->TI.wn h d v=some t:=by
 intro d;induction d with
 |zero=>intro v t c;exact c.elim
 |succ d g=>
  intro v t c;rcases c with⟨j,k,rfl⟩|⟨e,p,u,s,f,q,r,rfl,_,l,a,rfl⟩|⟨m,o,rfl,a,rfl⟩
  ·unfold TI.wn;rw[rY h 0 d v j k];rfl
  ·rw[xu,l,dS,pA (a.imp λi e b=>g b)];rfl
  ·rw[Rj,pA (a.imp λi e b=>g b)];rfl
def GM{c d:H}{a b g e:Nat}{f:Bool}(h:d.get a=c.get a):d.jf (.arr a b g e f)=c.jf (.arr a b g e f):=by
 rw[gh,gh,h]
def FT.mono{k h':H}{i j:Nat->Prop}(m:∀a,i a->j a/\h'.get a=k.get a):∀{b:Nat} {e d:T},FT k i b e d->FT h' j b e d:=by
 intro b;induction b with
 |zero=>intro e d c;exact c.elim
 |succ b o=>
  intro e d c;rcases c with c|⟨a,s,x,w,f,t,u,rfl,l,v,g,rfl⟩|⟨q,r,rfl,g,rfl⟩
  ·exact .inl c
  ·exact .inr (.inl ⟨a,s,x,w,f,t,u,rfl,(m a l).1,by rw[GM (m a l).2];exact v,g.imp λp a h=>o h,rfl⟩)
  ·exact .inr (.inr ⟨q,r,rfl,g.imp λp a h=>o h,rfl⟩)
def FT.deep{k:H}{j:Nat->Prop}:∀{b a:Nat} {e d:T},b<=a->FT k j b e d->FT k j a e d:=by
 intro b;induction b with
 |zero=>intro a e d _ c;exact c.elim
 |succ b l=>
  intro a e d y c;obtain⟨a,rfl⟩:∃q,a=q+1:=⟨a-1,B⟩;rcases c with c|⟨g,r,x,w,f,s,t,rfl,u,v,h,rfl⟩|⟨o,p,rfl,h,rfl⟩
  ·exact .inl c
  ·exact .inr (.inl ⟨g,r,x,w,f,s,t,rfl,u,v,h.imp λm g i=>l B i,rfl⟩)
  ·exact .inr (.inr ⟨o,p,rfl,h.imp λm g i=>l B i,rfl⟩)
def FT.fz{h:H}{V:Nat->Prop}{v t:T}(l:FT h V 12 v t):TI.fz h v=some t:=by
 rcases l with⟨i,e,rfl⟩|⟨g,o,s,r,f,p,q,rfl,e,j,a,rfl⟩|⟨b,c,rfl,a,rfl⟩
 ·show(M (iu h 0 v) λv=>some (cn v))=_;rw[pR h i e];rfl
 ·rw[xr,j,dS,pA (a.imp λm g k=>k.wn)];rfl
 ·have:=FT.wn (h:=h) (V:=V) (d:=12) (v:= .agg b) (t:= .agg c) (.inr (.inr ⟨b,c,rfl,a,rfl⟩));exact this
@[simp]def fZ (d:H) (b:Nat->Prop) (c:Nat) (a:ak) (n:Int):FT d b (c+1) (.int a n) (.int a n):= .inl ⟨J,J,J⟩
@[simp]def jU (d:H) (b:Nat->Prop) (c:Nat) (a:List Nat):FT d b (c+1) (.str a) (.str a):= .inl ⟨J,J,J⟩
@[simp]def KH (d:H) (b:Nat->Prop) (c:Nat) (a:Bool):FT d b (c+1) (.bool a) (.bool a):= .inl ⟨J,J,J⟩
theorem oy(g:H)(d:Nat->Prop)(e:Nat){a:List T}(c:∀b∈a,cn b=b):FT g d (e+1) (sl a) (sl a):=by
 refine .inl ⟨J,by cases a<;>simp[sl],?_⟩;rw[Kl];congr 1;induction a with
 |nil=>rfl
 |cons b k h=>rw[aP,c b J,<-h λi j=>c i (by grind)]
def jb(c:H)(a:Nat->Prop)(b:Nat)(f:Bool):FT c a (b+1) (.Y [] f) (sl []):= .inl ⟨J,J,by rw[mP];rfl⟩
section
variable {cx:Ctx}{cf:iH}{G n:Nat}{dl:DL}
def fh(b e:Code)(c:Env)(d:H)(a:iq):CK (some (.bool true)) cx cf n G dl b e c d a=W (jk cx cf n G dl b c d) a:=rfl
def eG(e b:Code)(c:Env)(d:H)(a:iq):CK (some (.bool false)) cx cf n G dl e b c d a=W (jk cx cf n G dl b c d) a:=rfl
def dV{d:Bool}{e g:Code}{b:Env}{c:H}{a:iq}(h:d=true->W (jk cx cf n G dl e b c) a)(i:d=false->W (jk cx cf n G dl g b c) a):CK (some (.bool d)) cx cf n G dl e g b c a:=by
 simp_all
end
def wR(P:ai)(cx:Ctx)(f:aj){α:Type}(A:α->List T)(pre:α->Prop)(Q:α->T->Prop):ge:=
 ⟨α,A,pre,λa=>Classical.epsilon λc=>(∀b,A b=A a->Q b c)/\kH P cx f (A a) c,λa b d=>by grind⟩
section
variable {P:ai}{cx:Ctx}{f:aj}{α:Type}{A:α->List T}{pre:α->Prop}{Q:α->T->Prop}
theorem Jy(e:∀a b,A a=A b->a=b){a:α}(g:∃c,Q a c/\kH P cx f (A a) c):Q a ((wR P cx f A pre Q).R a)/\kH P cx f (A a) ((wR P cx f A pre Q).R a):=by
 have d:∃c,(∀b,A b=A a->Q b c)/\kH P cx f (A a) c:=by
  grind
 have:=Classical.epsilon_spec d;exact⟨this.1 a rfl,this.2⟩
theorem YY(d:∀a b,A a=A b->a=b)(g:∀a,pre a->∃c,Q a c/\kH P cx f (A a) c):(wR P cx f A pre Q).Ok P cx f:=λa e=>(Jy d (g a e)).2
def xN{tb:fw}{c:Func}{G:Nat}{dl:DL}(i:P.follows .mixedOrders=true)(iU:iG P cx)(l:C4 P cx f c G dl)(n:α->Nat)(o:∀a d,A a=A d->a=d)(hl:∀a,lI (A a)=true)(j:∀a,(A a).length<=c.ntmps)
 (k:∀a,pre a->∀g,mp g 0 (A a)->W (jk cx (pK P cx tb) (n a) G dl (c.body.getD .skip) ⟨g,.nil⟩ hE) (yw cx G c.results.toList λm e=>∃b,Q a b/\Ju e m b)):(wR P cx f A pre Q).Ok P cx f/\∀a,pre a->Q a ((wR P cx f A pre Q).R a):=by
 have e:∀a,pre a->∃b,Q a b/\kH P cx f (A a) b:=λa h=>UG i iU l (CM P cx tb) (hl a) (j a) (n a) (k a h)
 grind [Jy,YY]
def mW(P:ai)(cx:Ctx)(f:aj)(A:α->List T)(pre:α->Prop)(Q:α->T->Prop):Prop:=(wR P cx f A pre Q).Ok P cx f/\∀a,pre a->Q a ((wR P cx f A pre Q).R a)
def AY(d:α->Nat)(step:∀c,mW P cx f A (λa=>pre a/\d a<c) Q->mW P cx f A (λa=>pre a/\d a<c+1) Q):mW P cx f A pre Q:=by
 have e:∀c,mW P cx f A (λa=>pre a/\d a<c) Q:=by
  intro c;induction c with
  |zero=>exact⟨λa b=>absurd b.2 (Nat.not_lt_zero _),λa b=>absurd b.2 (Nat.not_lt_zero _)⟩
  |succ c g=>simp_all
 exact⟨λa b=>(e (d a+1)).1 a ⟨b,cU _⟩,λa b=>(e (d a+1)).2 a ⟨b,cU _⟩⟩
end
def GQ(b:Prop)(c:T):Prop:=∃a,c= .bool a/\(a=true->b)
@[simp]def Yf (b:Prop) (a:Bool):GQ b (.bool a)=(a=true->b):=by
 unfold GQ;apply propext;constructor
 ·simp
 ·simp
@[simp]def abd (a:Bool):FE (.bool a)=True:=by simp[FE]
end
end
end Go.TI
namespace Go.Proofs.YtbappgeamhmmbaaGreatDoor
noncomputable section
open Go Go.TI Tryz
def fR(d:List (aj×ge)){b:ge}{g:aj}{c:Func}{e:Nat}{f:DL}(m:C4 prog cx g c e f)(h:b.α->Nat)(hl:∀a,lI (b.A a)=true)
 (l:∀a,b.pre a->∀i,mp i 0 (b.A a)->W (jk cx (pK prog cx ⟨pt d,ht []⟩) (h a) e f (c.body.getD .skip) ⟨i,.nil⟩ hE) (yw cx e c.results.toList λd j=>Ju j d (b.R a)))
 (k:∀a,Nat.ble (b.A a).length c.ntmps=true:=by intro _;rfl):b.Ok prog cx g:=Bp (tb:=⟨pt d,ht []⟩) iB gW m h hl (λa=>aU (k a)) l
def iS(d:List (aj×ge)){e:Type}{b:e->List T}{l:e->Prop}{g:e->T->Prop}{j:aj}{c:Func}{f:Nat}{i:DL}(s:C4 prog cx j c f i)(k:e->Nat)(p:∀a h,b a=b h->a=h)
 (r:∀a,l a->∀n,mp n 0 (b a)->W (jk cx (pK prog cx ⟨pt d,ht []⟩) (k a) f i (c.body.getD .skip) ⟨n,.nil⟩ hE) (yw cx f c.results.toList λd o=>∃m,g a m/\Ju o d m))
 (hl:∀a,lI (b a)=true:=by simp) (q:∀a,Nat.ble (b a).length c.ntmps=true:=by intro _;rfl):mW prog cx j b l g:=xN (tb:=⟨pt d,ht []⟩) iB gW s k p hl (λa=>aU (q a)) r
structure fW where
 name:List Nat
 index:Int
 size:Int
 sK:Bool
 jA:Int
 deriving DecidableEq,Inhabited
def fW.cs(a:fW):List T:=[.str a.name,D a.index,D a.size,.bool a.sK,D a.jA]
def fW.t(a:fW):T:= .agg a.cs
@[simp]def fW.ag (a:fW):pU a.t [.str a.name,D a.index,D a.size,.bool a.sK,D a.jA] 5:=Bj
@[simp]theorem fW.fold (a0:List Nat) (a1 a2:Int) (a3:Bool) (a4:Int):T.agg [.str a0,D a1,D a2,.bool a3,D a4]=fW.t ⟨a0,a1,a2,a3,a4⟩:=rfl
@[simp]theorem fW.eta (a:fW):fW.mk a.name a.index a.size a.sK a.jA=a:=rfl
def fW.inj{a b:fW}(c:a.t=b.t):a=b:=by
 rcases a with⟨_,_,_,_,_⟩;rcases b with⟨_,_,_,_,_⟩;simp[fW.t,fW.cs,-fW.fold]at c;simp[c]
def fW.qH(a b:List fW):(sl (a.map fW.t)=sl (b.map fW.t))=(a=b):=nS λ_ _=>fW.inj
structure ig where
 name:List Nat
 rW:Bool
 deriving DecidableEq,Inhabited
def ig.cs(a:ig):List T:=[.str a.name,.bool a.rW]
def ig.t(a:ig):T:= .agg a.cs
@[simp]def ig.ag (a:ig):pU a.t [.str a.name,.bool a.rW] 2:=Bj
@[simp]theorem ig.fold (a0:List Nat) (a1:Bool):T.agg [.str a0,.bool a1]=ig.t ⟨a0,a1⟩:=rfl
@[simp]theorem ig.eta (a:ig):ig.mk a.name a.rW=a:=rfl
def ig.inj{a b:ig}(c:a.t=b.t):a=b:=by
 rcases a with⟨_,_⟩;rcases b with⟨_,_⟩;simp[ig.t,ig.cs,-ig.fold]at c;simp[c]
def ig.qH(a b:List ig):(sl (a.map ig.t)=sl (b.map ig.t))=(a=b):=nS λ_ _=>ig.inj
structure iA where
 name:List Nat
 j2:Int
 deriving DecidableEq,Inhabited
def iA.cs(a:iA):List T:=[.str a.name,D a.j2]
def iA.t(a:iA):T:= .agg a.cs
@[simp]def iA.ag (a:iA):pU a.t [.str a.name,D a.j2] 2:=Bj
@[simp]theorem iA.fold (a0:List Nat) (a1:Int):T.agg [.str a0,D a1]=iA.t ⟨a0,a1⟩:=rfl
@[simp]theorem iA.eta (a:iA):iA.mk a.name a.j2=a:=rfl
def iA.inj{a b:iA}(c:a.t=b.t):a=b:=by
 rcases a with⟨_,_⟩;rcases b with⟨_,_⟩;simp[iA.t,iA.cs,-iA.fold]at c;simp[c]
def iA.qH(a b:List iA):(sl (a.map iA.t)=sl (b.map iA.t))=(a=b):=nS λ_ _=>iA.inj
structure ik where
 dQ:Int
 stmt:Int
 ud:Int
 deriving DecidableEq,Inhabited
def ik.cs(a:ik):List T:=[D a.dQ,D a.stmt,D a.ud]
def ik.t(a:ik):T:= .agg a.cs
@[simp]def ik.ag (a:ik):pU a.t [D a.dQ,D a.stmt,D a.ud] 3:=Bj
@[simp]theorem ik.fold (a0 a1 a2:Int):T.agg [D a0,D a1,D a2]=ik.t ⟨a0,a1,a2⟩:=rfl
@[simp]theorem ik.eta (a:ik):ik.mk a.dQ a.stmt a.ud=a:=rfl
def ik.inj{a b:ik}(c:a.t=b.t):a=b:=by
 rcases a with⟨_,_,_⟩;rcases b with⟨_,_,_⟩;simp[ik.t,ik.cs,-ik.fold]at c;simp[c]
def ik.qH(a b:List ik):(sl (a.map ik.t)=sl (b.map ik.t))=(a=b):=nS λ_ _=>ik.inj
structure dR where
 cells:List fW
 dW:List ig
 fV:List iA
 dU:List (List Nat)
 dC:List (List Nat)
 io:List ik
 deriving DecidableEq,Inhabited
def dR.cs(a:dR):List T:=[sl (a.cells.map fW.t),sl (a.dW.map ig.t),sl (a.fV.map iA.t),sl (a.dU.map T.str),sl (a.dC.map T.str),sl (a.io.map ik.t)]
def dR.t(a:dR):T:= .agg a.cs
@[simp]def dR.ag (a:dR):pU a.t [sl (a.cells.map fW.t),sl (a.dW.map ig.t),sl (a.fV.map iA.t),sl (a.dU.map T.str),sl (a.dC.map T.str),sl (a.io.map ik.t)] 6:=Bj
@[simp]theorem dR.fold (a0:List fW) (a1:List ig) (a2:List iA) (a3 a4:List (List Nat)) (a5:List ik):T.agg [sl (a0.map fW.t),sl (a1.map ig.t),sl (a2.map iA.t),sl (a3.map T.str),sl (a4.map T.str),sl (a5.map ik.t)]=dR.t ⟨a0,a1,a2,a3,a4,a5⟩:=rfl
@[simp]theorem dR.eta (a:dR):dR.mk a.cells a.dW a.fV a.dU a.dC a.io=a:=rfl
def dR.inj{a b:dR}(c:a.t=b.t):a=b:=by
 rcases a with⟨_,_,_,_,_,_⟩;rcases b with⟨_,_,_,_,_,_⟩;simp[dR.t,dR.cs,fW.qH,iA.qH,ig.qH,ik.qH,ZI,-dR.fold]at c;simp[c]
structure dP where
 iy:Int
 ed:List Int
 deriving DecidableEq,Inhabited
def dP.cs(a:dP):List T:=[D a.iy,sl (a.ed.map (T.int .i64))]
def dP.t(a:dP):T:= .agg a.cs
@[simp]def dP.ag (a:dP):pU a.t [D a.iy,sl (a.ed.map (T.int .i64))] 2:=Bj
@[simp]theorem dP.fold (a0:Int) (a1:List Int):T.agg [D a0,sl (a1.map (T.int .i64))]=dP.t ⟨a0,a1⟩:=rfl
@[simp]theorem dP.eta (a:dP):dP.mk a.iy a.ed=a:=rfl
def dP.inj{a b:dP}(c:a.t=b.t):a=b:=by
 rcases a with⟨_,_⟩;rcases b with⟨_,_⟩;simp[dP.t,dP.cs,TJ,-dP.fold]at c;simp[c]
def dP.qH(a b:List dP):(sl (a.map dP.t)=sl (b.map dP.t))=(a=b):=nS λ_ _=>dP.inj
structure dE where
 iv:Int
 cond:Int
 atomic:Bool
 deriving DecidableEq,Inhabited
def dE.cs(a:dE):List T:=[D a.iv,D a.cond,.bool a.atomic]
def dE.t(a:dE):T:= .agg a.cs
@[simp]def dE.ag (a:dE):pU a.t [D a.iv,D a.cond,.bool a.atomic] 3:=Bj
@[simp]theorem dE.fold (a0 a1:Int) (a2:Bool):T.agg [D a0,D a1,.bool a2]=dE.t ⟨a0,a1,a2⟩:=rfl
@[simp]theorem dE.eta (a:dE):dE.mk a.iv a.cond a.atomic=a:=rfl
def dE.inj{a b:dE}(c:a.t=b.t):a=b:=by
 rcases a with⟨_,_,_⟩;rcases b with⟨_,_,_⟩;simp[dE.t,dE.cs,-dE.fold]at c;simp[c]
def dE.qH(a b:List dE):(sl (a.map dE.t)=sl (b.map dE.t))=(a=b):=nS λ_ _=>dE.inj
structure fa where
 dW:List dP
 tx:Int
 done:List Bool
 dC:List dE
 deriving DecidableEq,Inhabited
def fa.cs(a:fa):List T:=[sl (a.dW.map dP.t),D a.tx,sl (a.done.map T.bool),sl (a.dC.map dE.t)]
def fa.t(a:fa):T:= .agg a.cs
@[simp]def fa.ag (a:fa):pU a.t [sl (a.dW.map dP.t),D a.tx,sl (a.done.map T.bool),sl (a.dC.map dE.t)] 4:=Bj
@[simp]theorem fa.fold (a0:List dP) (a1:Int) (a2:List Bool) (a3:List dE):T.agg [sl (a0.map dP.t),D a1,sl (a2.map T.bool),sl (a3.map dE.t)]=fa.t ⟨a0,a1,a2,a3⟩:=rfl
@[simp]theorem fa.eta (a:fa):fa.mk a.dW a.tx a.done a.dC=a:=rfl
def fa.inj{a b:fa}(c:a.t=b.t):a=b:=by
 rcases a with⟨_,_,_,_⟩;rcases b with⟨_,_,_,_⟩;simp[fa.t,fa.cs,dP.qH,dE.qH,ZK,-fa.fold]at c;simp[c]
def fa.qH(a b:List fa):(sl (a.map fa.t)=sl (b.map fa.t))=(a=b):=nS λ_ _=>fa.inj
structure dZ where
 fk:fa
 cells:List Int
 dU:List Int
 count:List Int
 deriving DecidableEq,Inhabited
def dZ.cs(a:dZ):List T:=[sl (a.fk.dW.map dP.t),D a.fk.tx,sl (a.fk.done.map T.bool),sl (a.fk.dC.map dE.t),sl (a.cells.map (T.int .i64)),sl (a.dU.map (T.int .i64)),sl (a.count.map (T.int .i64))]
def dZ.t(a:dZ):T:= .agg a.cs
@[simp]def dZ.ag (a:dZ):pU a.t [sl (a.fk.dW.map dP.t),D a.fk.tx,sl (a.fk.done.map T.bool),sl (a.fk.dC.map dE.t),sl (a.cells.map (T.int .i64)),sl (a.dU.map (T.int .i64)),sl (a.count.map (T.int .i64))] 7:=Bj
@[simp]theorem dZ.fold (a0:List dP) (a1:Int) (a2:List Bool) (a3:List dE) (a4 a5 a6:List Int):T.agg [sl (a0.map dP.t),D a1,sl (a2.map T.bool),sl (a3.map dE.t),sl (a4.map (T.int .i64)),sl (a5.map (T.int .i64)),sl (a6.map (T.int .i64))]=dZ.t ⟨⟨a0,a1,a2,a3⟩,a4,a5,a6⟩:=rfl
@[simp]theorem dZ.eta (a:dZ):dZ.mk a.fk a.cells a.dU a.count=a:=rfl
def dZ.inj{a b:dZ}(c:a.t=b.t):a=b:=by
 rcases a with⟨⟨_,_,_,_⟩,_,_,_⟩;rcases b with⟨⟨_,_,_,_⟩,_,_,_⟩;simp[dZ.t,dZ.cs,dP.qH,dE.qH,ZK,TJ,-dZ.fold]at c;simp[c]
structure dY where
 dQ:Int
 kind:Int
 obj:Int
 value:Int
 iQ:Int
 mo:List Int
 uA:List Int
 deriving DecidableEq,Inhabited
def dY.cs(a:dY):List T:=[D a.dQ,D a.kind,D a.obj,D a.value,D a.iQ,sl (a.mo.map (T.int .i64)),sl (a.uA.map (T.int .i64))]
def dY.t(a:dY):T:= .agg a.cs
@[simp]def dY.ag (a:dY):pU a.t [D a.dQ,D a.kind,D a.obj,D a.value,D a.iQ,sl (a.mo.map (T.int .i64)),sl (a.uA.map (T.int .i64))] 7:=Bj
@[simp]theorem dY.fold (a0 a1 a2 a3 a4:Int) (a5 a6:List Int):T.agg [D a0,D a1,D a2,D a3,D a4,sl (a5.map (T.int .i64)),sl (a6.map (T.int .i64))]=dY.t ⟨a0,a1,a2,a3,a4,a5,a6⟩:=rfl
@[simp]theorem dY.eta (a:dY):dY.mk a.dQ a.kind a.obj a.value a.iQ a.mo a.uA=a:=rfl
def dY.inj{a b:dY}(c:a.t=b.t):a=b:=by
 rcases a with⟨_,_,_,_,_,_,_⟩;rcases b with⟨_,_,_,_,_,_,_⟩;simp[dY.t,dY.cs,TJ,-dY.fold]at c;simp[c]
def dY.qH(a b:List dY):(sl (a.map dY.t)=sl (b.map dY.t))=(a=b):=nS λ_ _=>dY.inj
structure eJ where
 ew:dR
 start:Int
 jA:dZ
 dI:List dY
 deriving DecidableEq,Inhabited
def eJ.cs(a:eJ):List T:=[sl (a.ew.cells.map fW.t),sl (a.ew.dW.map ig.t),sl (a.ew.fV.map iA.t),sl (a.ew.dU.map T.str),sl (a.ew.dC.map T.str),sl (a.ew.io.map ik.t),D a.start,sl (a.jA.fk.dW.map dP.t),D a.jA.fk.tx,sl (a.jA.fk.done.map T.bool),sl (a.jA.fk.dC.map dE.t),sl (a.jA.cells.map (T.int .i64)),sl (a.jA.dU.map (T.int .i64)),sl (a.jA.count.map (T.int .i64)),sl (a.dI.map dY.t)]
def eJ.t(a:eJ):T:= .agg a.cs
@[simp]def eJ.ag (a:eJ):pU a.t [sl (a.ew.cells.map fW.t),sl (a.ew.dW.map ig.t),sl (a.ew.fV.map iA.t),sl (a.ew.dU.map T.str),sl (a.ew.dC.map T.str),sl (a.ew.io.map ik.t),D a.start,sl (a.jA.fk.dW.map dP.t),D a.jA.fk.tx,sl (a.jA.fk.done.map T.bool),sl (a.jA.fk.dC.map dE.t),sl (a.jA.cells.map (T.int .i64)),sl (a.jA.dU.map (T.int .i64)),sl (a.jA.count.map (T.int .i64)),sl (a.dI.map dY.t)] 15:=Bj
@[simp]theorem eJ.fold (a0:List fW) (a1:List ig) (a2:List iA) (a3 a4:List (List Nat)) (a5:List ik) (a6:Int) (f:List dP) (g:Int) (h:List Bool) (a:List dE) (b c d:List Int) (e:List dY):T.agg [sl (a0.map fW.t),sl (a1.map ig.t),sl (a2.map iA.t),sl (a3.map T.str),sl (a4.map T.str),sl (a5.map ik.t),D a6,sl (f.map dP.t),D g,sl (h.map T.bool),sl (a.map dE.t),sl (b.map (T.int .i64)),sl (c.map (T.int .i64)),sl (d.map (T.int .i64)),sl (e.map dY.t)]=eJ.t ⟨⟨a0,a1,a2,a3,a4,a5⟩,a6,⟨⟨f,g,h,a⟩,b,c,d⟩,e⟩:=rfl
@[simp]theorem eJ.eta (a:eJ):eJ.mk a.ew a.start a.jA a.dI=a:=rfl
def eJ.inj{a b:eJ}(c:a.t=b.t):a=b:=by
 rcases a with⟨⟨_,_,_,_,_,_⟩,_,⟨⟨_,_,_,_⟩,_,_,_⟩,_⟩;rcases b with⟨⟨_,_,_,_,_,_⟩,_,⟨⟨_,_,_,_⟩,_,_,_⟩,_⟩;simp[eJ.t,eJ.cs,fW.qH,iA.qH,dY.qH,ig.qH,dP.qH,ik.qH,dE.qH,ZK,TJ,ZI,-eJ.fold]at c;simp[c]
structure jq where
 kind:Int
 a:Int
 b:Int
 c:Int
 d:Int
 kA:List Int
 deriving DecidableEq,Inhabited
def jq.cs(e:jq):List T:=[D e.kind,D e.a,D e.b,D e.c,D e.d,sl (e.kA.map (T.int .i64))]
def jq.t(a:jq):T:= .agg a.cs
@[simp]def jq.ag (e:jq):pU e.t [D e.kind,D e.a,D e.b,D e.c,D e.d,sl (e.kA.map (T.int .i64))] 6:=Bj
@[simp]theorem jq.fold (a0 a1 a2 a3 a4:Int) (a5:List Int):T.agg [D a0,D a1,D a2,D a3,D a4,sl (a5.map (T.int .i64))]=jq.t ⟨a0,a1,a2,a3,a4,a5⟩:=rfl
@[simp]theorem jq.eta (e:jq):jq.mk e.kind e.a e.b e.c e.d e.kA=e:=rfl
def jq.inj{a b:jq}(c:a.t=b.t):a=b:=by
 rcases a with⟨_,_,_,_,_,_⟩;rcases b with⟨_,_,_,_,_,_⟩;simp[jq.t,jq.cs,TJ,-jq.fold]at c;simp[c]
structure j1 where
 ew:dR
 dI:List dY
 deriving DecidableEq,Inhabited
def j1.cs(a:j1):List T:=[sl (a.ew.cells.map fW.t),sl (a.ew.dW.map ig.t),sl (a.ew.fV.map iA.t),sl (a.ew.dU.map T.str),sl (a.ew.dC.map T.str),sl (a.ew.io.map ik.t),sl (a.dI.map dY.t)]
def j1.t(a:j1):T:= .agg a.cs
@[simp]def j1.ag (a:j1):pU a.t [sl (a.ew.cells.map fW.t),sl (a.ew.dW.map ig.t),sl (a.ew.fV.map iA.t),sl (a.ew.dU.map T.str),sl (a.ew.dC.map T.str),sl (a.ew.io.map ik.t),sl (a.dI.map dY.t)] 7:=Bj
@[simp]theorem j1.fold (a0:List fW) (a1:List ig) (a2:List iA) (a3 a4:List (List Nat)) (a5:List ik) (a6:List dY):T.agg [sl (a0.map fW.t),sl (a1.map ig.t),sl (a2.map iA.t),sl (a3.map T.str),sl (a4.map T.str),sl (a5.map ik.t),sl (a6.map dY.t)]=j1.t ⟨⟨a0,a1,a2,a3,a4,a5⟩,a6⟩:=rfl
@[simp]theorem j1.eta (a:j1):j1.mk a.ew a.dI=a:=rfl
def j1.inj{a b:j1}(c:a.t=b.t):a=b:=by
 rcases a with⟨⟨_,_,_,_,_,_⟩,_⟩;rcases b with⟨⟨_,_,_,_,_,_⟩,_⟩;simp[j1.t,j1.cs,fW.qH,iA.qH,dY.qH,ig.qH,ik.qH,ZI,-j1.fold]at c;simp[c]
structure fM where
 w:eJ
 Bt:List fa
 deriving DecidableEq,Inhabited
def fM.cs(a:fM):List T:=[sl (a.w.ew.cells.map fW.t),sl (a.w.ew.dW.map ig.t),sl (a.w.ew.fV.map iA.t),sl (a.w.ew.dU.map T.str),sl (a.w.ew.dC.map T.str),sl (a.w.ew.io.map ik.t),D a.w.start,sl (a.w.jA.fk.dW.map dP.t),D a.w.jA.fk.tx,sl (a.w.jA.fk.done.map T.bool),sl (a.w.jA.fk.dC.map dE.t),sl (a.w.jA.cells.map (T.int .i64)),sl (a.w.jA.dU.map (T.int .i64)),sl (a.w.jA.count.map (T.int .i64)),sl (a.w.dI.map dY.t),sl (a.Bt.map fa.t)]
def fM.t(a:fM):T:= .agg a.cs
@[simp]def fM.ag (a:fM):pU a.t [sl (a.w.ew.cells.map fW.t),sl (a.w.ew.dW.map ig.t),sl (a.w.ew.fV.map iA.t),sl (a.w.ew.dU.map T.str),sl (a.w.ew.dC.map T.str),sl (a.w.ew.io.map ik.t),D a.w.start,sl (a.w.jA.fk.dW.map dP.t),D a.w.jA.fk.tx,sl (a.w.jA.fk.done.map T.bool),sl (a.w.jA.fk.dC.map dE.t),sl (a.w.jA.cells.map (T.int .i64)),sl (a.w.jA.dU.map (T.int .i64)),sl (a.w.jA.count.map (T.int .i64)),sl (a.w.dI.map dY.t),sl (a.Bt.map fa.t)] 16:=Bj
@[simp]theorem fM.fold (a0:List fW) (a1:List ig) (a2:List iA) (a3 a4:List (List Nat)) (a5:List ik) (a6:Int) (g:List dP) (h:Int) (i:List Bool) (a:List dE) (b c d:List Int) (e:List dY) (f:List fa):T.agg [sl (a0.map fW.t),sl (a1.map ig.t),sl (a2.map iA.t),sl (a3.map T.str),sl (a4.map T.str),sl (a5.map ik.t),D a6,sl (g.map dP.t),D h,sl (i.map T.bool),sl (a.map dE.t),sl (b.map (T.int .i64)),sl (c.map (T.int .i64)),sl (d.map (T.int .i64)),sl (e.map dY.t),sl (f.map fa.t)]=fM.t ⟨⟨⟨a0,a1,a2,a3,a4,a5⟩,a6,⟨⟨g,h,i,a⟩,b,c,d⟩,e⟩,f⟩:=rfl
@[simp]theorem fM.eta (a:fM):fM.mk a.w a.Bt=a:=rfl
def fM.inj{a b:fM}(c:a.t=b.t):a=b:=by
 rcases a with⟨⟨⟨_,_,_,_,_,_⟩,_,⟨⟨_,_,_,_⟩,_,_,_⟩,_⟩,_⟩;rcases b with⟨⟨⟨_,_,_,_,_,_⟩,_,⟨⟨_,_,_,_⟩,_,_,_⟩,_⟩,_⟩;simp[fM.t,fM.cs,fW.qH,iA.qH,dY.qH,ig.qH,dP.qH,ik.qH,fa.qH,dE.qH,ZK,TJ,ZI,-fM.fold]at c;simp[c]
structure fD where
 op:Int
 a:Int
 b:Int
 c:Int
 n:Int
 iQ:Int
 deriving DecidableEq,Inhabited
def fD.cs(d:fD):List T:=[D d.op,D d.a,D d.b,D d.c,D d.n,D d.iQ]
def fD.t(a:fD):T:= .agg a.cs
@[simp]def fD.ag (d:fD):pU d.t [D d.op,D d.a,D d.b,D d.c,D d.n,D d.iQ] 6:=Bj
@[simp]theorem fD.fold (a0 a1 a2 a3 a4 a5:Int):T.agg [D a0,D a1,D a2,D a3,D a4,D a5]=fD.t ⟨a0,a1,a2,a3,a4,a5⟩:=rfl
@[simp]theorem fD.eta (d:fD):fD.mk d.op d.a d.b d.c d.n d.iQ=d:=rfl
def fD.inj{a b:fD}(c:a.t=b.t):a=b:=by
 rcases a with⟨_,_,_,_,_,_⟩;rcases b with⟨_,_,_,_,_,_⟩;simp[fD.t,fD.cs,-fD.fold]at c;simp[c]
def fD.qH(a b:List fD):(sl (a.map fD.t)=sl (b.map fD.t))=(a=b):=nS λ_ _=>fD.inj
structure fy where
 iF:Int
 iY:List fD
 deriving DecidableEq,Inhabited
def fy.cs(a:fy):List T:=[D a.iF,sl (a.iY.map fD.t)]
def fy.t(a:fy):T:= .agg a.cs
@[simp]def fy.ag (a:fy):pU a.t [D a.iF,sl (a.iY.map fD.t)] 2:=Bj
@[simp]theorem fy.fold (a0:Int) (a1:List fD):T.agg [D a0,sl (a1.map fD.t)]=fy.t ⟨a0,a1⟩:=rfl
@[simp]theorem fy.eta (a:fy):fy.mk a.iF a.iY=a:=rfl
def fy.inj{a b:fy}(c:a.t=b.t):a=b:=by
 rcases a with⟨_,_⟩;rcases b with⟨_,_⟩;simp[fy.t,fy.cs,fD.qH,-fy.fold]at c;simp[c]
def fy.qH(a b:List fy):(sl (a.map fy.t)=sl (b.map fy.t))=(a=b):=nS λ_ _=>fy.inj
structure jG where
 ew:dR
 dC:List fy
 deriving DecidableEq,Inhabited
def jG.cs(a:jG):List T:=[sl (a.ew.cells.map fW.t),sl (a.ew.dW.map ig.t),sl (a.ew.fV.map iA.t),sl (a.ew.dU.map T.str),sl (a.ew.dC.map T.str),sl (a.ew.io.map ik.t),sl (a.dC.map fy.t)]
def jG.t(a:jG):T:= .agg a.cs
@[simp]def jG.ag (a:jG):pU a.t [sl (a.ew.cells.map fW.t),sl (a.ew.dW.map ig.t),sl (a.ew.fV.map iA.t),sl (a.ew.dU.map T.str),sl (a.ew.dC.map T.str),sl (a.ew.io.map ik.t),sl (a.dC.map fy.t)] 7:=Bj
@[simp]theorem jG.fold (a0:List fW) (a1:List ig) (a2:List iA) (a3 a4:List (List Nat)) (a5:List ik) (a6:List fy):T.agg [sl (a0.map fW.t),sl (a1.map ig.t),sl (a2.map iA.t),sl (a3.map T.str),sl (a4.map T.str),sl (a5.map ik.t),sl (a6.map fy.t)]=jG.t ⟨⟨a0,a1,a2,a3,a4,a5⟩,a6⟩:=rfl
@[simp]theorem jG.eta (a:jG):jG.mk a.ew a.dC=a:=rfl
def jG.inj{a b:jG}(c:a.t=b.t):a=b:=by
 rcases a with⟨⟨_,_,_,_,_,_⟩,_⟩;rcases b with⟨⟨_,_,_,_,_,_⟩,_⟩;simp[jG.t,jG.cs,fW.qH,iA.qH,ig.qH,ik.qH,fy.qH,ZI,-jG.fold]at c;simp[c]
structure dX where
 pC:Int
 iF:List Int
 jS:List (List Int)
 dI:Int
 deriving DecidableEq,Inhabited
def dX.cs(a:dX):List T:=[D a.pC,sl (a.iF.map (T.int .i64)),sl (a.jS.map (λb=>sl (b.map (T.int .i64)))),D a.dI]
def dX.t(a:dX):T:= .agg a.cs
@[simp]def dX.ag (a:dX):pU a.t [D a.pC,sl (a.iF.map (T.int .i64)),sl (a.jS.map (λb=>sl (b.map (T.int .i64)))),D a.dI] 4:=Bj
@[simp]theorem dX.fold (a0:Int) (a1:List Int) (a2:List (List Int)) (a3:Int):T.agg [D a0,sl (a1.map (T.int .i64)),sl (a2.map (λa=>sl (a.map (T.int .i64)))),D a3]=dX.t ⟨a0,a1,a2,a3⟩:=rfl
@[simp]theorem dX.eta (a:dX):dX.mk a.pC a.iF a.jS a.dI=a:=rfl
def dX.inj{a b:dX}(c:a.t=b.t):a=b:=by
 rcases a with⟨_,_,_,_⟩;rcases b with⟨_,_,_,_⟩;simp only[dX.t,dX.cs,T.agg.injEq,bI]at c;obtain⟨d,e,f,g,_⟩:=c;obtain rfl:=Cg d;obtain rfl:=By (λ_ _=>Cg) _ _ e;obtain rfl:=By (By (λ_ _=>Cg)) _ _ f;obtain rfl:=Cg g;rfl
def dX.qH(a b:List dX):(sl (a.map dX.t)=sl (b.map dX.t))=(a=b):=nS λ_ _=>dX.inj
structure iw where
 fk:fa
 cells:List Int
 dU:List Int
 dC:List dX
 deriving DecidableEq,Inhabited
def iw.cs(a:iw):List T:=[sl (a.fk.dW.map dP.t),D a.fk.tx,sl (a.fk.done.map T.bool),sl (a.fk.dC.map dE.t),sl (a.cells.map (T.int .i64)),sl (a.dU.map (T.int .i64)),sl (a.dC.map dX.t)]
def iw.t(a:iw):T:= .agg a.cs
@[simp]def iw.ag (a:iw):pU a.t [sl (a.fk.dW.map dP.t),D a.fk.tx,sl (a.fk.done.map T.bool),sl (a.fk.dC.map dE.t),sl (a.cells.map (T.int .i64)),sl (a.dU.map (T.int .i64)),sl (a.dC.map dX.t)] 7:=Bj
@[simp]theorem iw.fold (a0:List dP) (a1:Int) (a2:List Bool) (a3:List dE) (a4 a5:List Int) (a6:List dX):T.agg [sl (a0.map dP.t),D a1,sl (a2.map T.bool),sl (a3.map dE.t),sl (a4.map (T.int .i64)),sl (a5.map (T.int .i64)),sl (a6.map dX.t)]=iw.t ⟨⟨a0,a1,a2,a3⟩,a4,a5,a6⟩:=rfl
@[simp]theorem iw.eta (a:iw):iw.mk a.fk a.cells a.dU a.dC=a:=rfl
def iw.inj{a b:iw}(c:a.t=b.t):a=b:=by
 rcases a with⟨⟨_,_,_,_⟩,_,_,_⟩;rcases b with⟨⟨_,_,_,_⟩,_,_,_⟩;simp[iw.t,iw.cs,dP.qH,dX.qH,dE.qH,ZK,TJ,-iw.fold]at c;simp[c]
structure iW where
 dQ:Int
 Et:Int
 deriving DecidableEq,Inhabited
def iW.cs(a:iW):List T:=[D a.dQ,D a.Et]
def iW.t(a:iW):T:= .agg a.cs
@[simp]def iW.ag (a:iW):pU a.t [D a.dQ,D a.Et] 2:=Bj
@[simp]theorem iW.fold (a0 a1:Int):T.agg [D a0,D a1]=iW.t ⟨a0,a1⟩:=rfl
@[simp]theorem iW.eta (a:iW):iW.mk a.dQ a.Et=a:=rfl
def iW.inj{a b:iW}(c:a.t=b.t):a=b:=by
 rcases a with⟨_,_⟩;rcases b with⟨_,_⟩;simp[iW.t,iW.cs,-iW.fold]at c;simp[c]
structure gU where
 kind:Int
 ud:Int
 name:List Nat
 size:Int
 jA:Int
 on:List Nat
 deriving DecidableEq,Inhabited
def gU.cs(a:gU):List T:=[D a.kind,D a.ud,.str a.name,D a.size,D a.jA,.str a.on]
def gU.t(a:gU):T:= .agg a.cs
@[simp]def gU.ag (a:gU):pU a.t [D a.kind,D a.ud,.str a.name,D a.size,D a.jA,.str a.on] 6:=Bj
@[simp]theorem gU.fold (a0 a1:Int) (a2:List Nat) (a3 a4:Int) (a5:List Nat):T.agg [D a0,D a1,.str a2,D a3,D a4,.str a5]=gU.t ⟨a0,a1,a2,a3,a4,a5⟩:=rfl
@[simp]theorem gU.eta (a:gU):gU.mk a.kind a.ud a.name a.size a.jA a.on=a:=rfl
def gU.inj{a b:gU}(c:a.t=b.t):a=b:=by
 rcases a with⟨_,_,_,_,_,_⟩;rcases b with⟨_,_,_,_,_,_⟩;simp[gU.t,gU.cs,-gU.fold]at c;simp[c]
def iR(a:Int)(b:Nat):Bool:=decide (0<=a/\a<b)
def vC{b:Type}(c:List b)(a:Int):aa b:=if 0<=a then c[a.toNat]? else none
def ff{a:Int}{b:Nat}:iR a b=true↔0<=a/\a.toNat<b:=by unfold iR;simp;omega
def D8{a:Int}{c:Nat}(b:iR a c=false):¬(0<=a/\a.toNat<c):=λd=>by rw[ff.2 d]at b;simp at b
def im{g:Type}{b:List g}{a:Int}(e:iR a b.length=true):∃d,b[a.toNat]? =some d/\vC b a=some d:=by
 have⟨f,c⟩:=ff.1 e;exact⟨b[a.toNat],by simp[c],by simp[vC,f,c]⟩
def qn{d:Type}{b:List d}{a:Int}(c:iR a b.length=false):vC b a=none:=by
 have:=D8 c;unfold vC;split
 ·simp;omega
 ·rfl
def lY(a:dR)(b:fa):Bool:=(a.fV.all λc=>iR c.j2 a.dW.length)&&decide (b.dW.length=a.dW.length)&&decide (b.done.length=a.dU.length)&&decide (b.dC.length=a.dC.length)
def ju(c:dR)(a b:Int):Bool:=
 if a=1\/a=2\/a=5\/a=12\/a=13\/a=14\/a=15 then decide (b=-1)
 else if a=3\/a=4 then iR b c.cells.length
 else if a=6\/a=7 then(match vC c.dW b with|some d=> !d.rW|none=>false)
 else if a=8\/a=9\/a=10\/a=11 then(match vC c.dW b with|some d=>d.rW|none=>false)
 else if a=16\/a=17\/a=18\/a=19 then iR b c.fV.length
 else if a=20\/a=21 then iR b c.dC.length
 else if a=22\/a=23 then iR b c.dU.length
 else false
def hU(a:Int):List dE->Nat->List Int
 | [],_=>[]
 |t::c,b=>if t.iv=3/\t.cond=a then(b:Int)::hU a c (b+1)else hU a c (b+1)
def ls(b:fa)(a:Int):dP:=(vC b.dW a).getD default
def ow(b:fa)(a:Int):dE:=(vC b.dC a).getD default
def qZ(c:dR)(b:fa)(a:Int):dP:=ls b ((vC c.fV a).getD default).j2
def CH(b:fa)(a:Int):Bool:=(vC b.done a).getD false
def xL(e:dR)(a:fa)(d b c:Int):Bool:=
 if b=1 then decide ((ow a d).iv=1)
 else if b=17 then decide ((ow a d).iv=4)&&decide ((ow a d).cond=c)&&decide ((qZ e a c).iy=-1)
 else if¬(ow a d).iv=2 then false
 else if b=6 then decide ((ls a c).iy=-1)
 else if b=10 then decide ((ls a c).iy=-1)&&decide ((ls a c).ed=[])
 else if b=8 then decide ((ls a c).iy=-1)&& !decide (d∈(ls a c).ed)
 else if b=7\/b=11 then decide ((ls a c).iy=d)
 else if b=9 then decide (d∈(ls a c).ed)
 else if b=12 then decide (a.tx=-1)
 else if b=13 then decide (a.tx=d)
 else if b=14 then !(ow a d).atomic
 else if b=15 then(ow a d).atomic
 else if b=16\/b=18\/b=19 then decide ((qZ e a c).iy=d)
 else if b=20 then !decide (c=d)&&decide ((ow a c).iv=0)
 else if b=21 then !decide (c=d)&&decide ((ow a c).iv=5)
 else if b=22 then !CH a c
 else if b=23 then CH a c
 else true
def jw(a:dR)(d:fa)(e b c:Int):Bool:=lY a d&&iR e a.dC.length&&ju a b c&&xL a d e b c
def nL{c:dR}{b:fa}(a:lY c b=true):b.dW.length=c.dW.length/\b.done.length=c.dU.length/\b.dC.length=c.dC.length:=by
 unfold lY at a;simp at a;exact⟨a.1.1.2,a.1.2,a.2⟩
def qY{c:dR}{f:fa}(b:lY c f=true){e:Nat}{a:iA}(d:c.fV[e]? =some a):iR a.j2 c.dW.length=true:=by
 unfold lY at b;simp at b;exact b.1.1.1 a (ax d)
def qv{d:dR}{a c:Int}(b:ju d a c=true):a=1\/a=2\/a=3\/a=4\/a=5\/a=12\/a=13\/a=14\/a=15\/(a=6\/a=7\/a=8\/a=9\/a=10\/a=11)\/(a=16\/a=17\/a=18\/a=19)\/(a=20\/a=21)\/(a=22\/a=23):=by
 by_cases e:1<=a/\a<=23
 ·omega
 ·exfalso;unfold ju at b;rw[ao B,ao B,ao B,ao B,ao B,ao B,ao B]at b;simp at b
def kr{d:dR}{a c:Int}(b:ju d a c=true)(e:a=6\/a=7\/a=8\/a=9\/a=10\/a=11):iR c d.dW.length=true:=by
 cases hl:iR c d.dW.length with
 |true=>rfl
 |false=>
  unfold ju at b;rw[ao B,ao B]at b;rcases e with rfl|rfl|rfl|rfl|rfl|rfl<;>simp[qn hl]at b
def mG{d:dR}{a c:Int}(b:ju d a c=true)(e:a=16\/a=17\/a=18\/a=19):iR c d.fV.length=true:=by
 unfold ju at b;rwa[ao B,ao B,ao B,ao B,aq e]at b
def we{d:dR}{a c:Int}(b:ju d a c=true)(e:a=20\/a=21):iR c d.dC.length=true:=by
 unfold ju at b;rwa[ao B,ao B,ao B,ao B,ao B,aq e]at b
def qx{d:dR}{a c:Int}(b:ju d a c=true)(e:a=22\/a=23):iR c d.dU.length=true:=by
 unfold ju at b;rwa[ao B,ao B,ao B,ao B,ao B,ao B,aq e]at b
def fa.sm(a:fa):Prop:=a.dW.length<=1099511627776/\a.done.length<=1099511627776/\a.dC.length<=1099511627776/\∀b∈a.dW,b.ed.length<=1000000000000
def fa.oD(a:fa)(i:Int)(b:dE->dE):fa:={a with dC:=a.dC.modify i.toNat b}
def fa.ot(a:fa)(c:Int)(b:dP->dP):fa:={a with dW:=a.dW.modify c.toNat b}
def ke(a:Int)(b:dE):dE:={b with iv:=a}
def lH:List Int->Int->List Int
 | [],a=>[a]
 |x::b,a=>if x<a then x::lH b a else if x=a then x::b else a::x::b
def xO(a c:Int)(b:List dE):Int:=if c∈hU a b 0 then c else(hU a b 0).headD (-1)
def ei(g:dR)(a:fa)(f b c h:Int):fa×Int:=
 if b=1 then(a.oD f (ke 2),0)
 else if b=2 then(a.oD f (ke 5),0)
 else if b=6\/b=10 then(a.ot c λd=>{d with iy:=f},0)
 else if b=7\/b=11 then(a.ot c λd=>{d with iy:=-1},0)
 else if b=8 then(a.ot c λd=>{d with ed:=lH d.ed f},0)
 else if b=9 then(a.ot c λd=>{d with ed:=d.ed.filter λi=> !decide (i=f)},0)
 else if b=12 then({a with tx:=f},0)
 else if b=13 then({a with tx:=-1},0)
 else if b=14 then(a.oD f λe=>{e with atomic:=true},0)
 else if b=15 then(a.oD f λe=>{e with atomic:=false},0)
 else if b=16 then((a.ot ((vC g.fV c).getD default).j2 λd=>{d with iy:=-1}).oD f λe=>{e with iv:=3,cond:=c},0)
 else if b=17 then((a.ot ((vC g.fV c).getD default).j2 λd=>{d with iy:=f}).oD f λe=>{e with iv:=2,cond:=0},0)
 else if b=18 then(if hU c a.dC 0=[]then(a,-1)else(a.oD (xO c h a.dC) (ke 4),xO c h a.dC))
 else if b=19 then({a with dC:=a.dC.map λe=>if e.iv=3/\e.cond=c then ke 4 e else e},(hU c a.dC 0).length)
 else if b=20 then(a.oD c (ke 1),0)
 else if b=22 then({a with done:=a.done.set c.toNat true},0)
 else(a,0)
def HJ(a:List Int):Prop:=a.Pairwise (· < ·)
def fa.El(b:fa):Prop:=∀a∈b.dW,HJ a.ed
def Ch{a:List Int}{c b:Int}(h:b∈lH a c):b∈a\/b=c:=by
 induction a with
 |nil=>simp[lH]at h;exact .inr h
 |cons e a d=>
  unfold lH at h;split at h
  ·rcases List.mem_cons.1 h with rfl|h
   ·exact .inl J
   ·rcases d h with h|h
    ·exact .inl (by simp[h])
    ·exact .inr h
  ·split at h
   ·exact .inl h
   ·rcases List.mem_cons.1 h with rfl|h
    ·exact .inr rfl
    ·exact .inl h
def Ci{b:List Int}(a:HJ b)(e:Int):HJ (lH b e):=by
 induction b with
 |nil=>simp[lH,HJ]
 |cons f b d=>
  unfold HJ at*
  rw[db]at a;unfold lH;split
  ·rw[db];refine⟨λc hx=>?_,d a.2⟩;rcases Ch hx with hx|rfl
   ·exact a.1 c hx
   ·assumption
  ·split
   ·rw[db];exact a
   ·rw[db,db];refine⟨λc hx=>?_,a⟩;rcases List.mem_cons.1 hx with rfl|hx
    ·omega
    ·have:=a.1 c hx;omega
def GT(a:List Int)(b:Int):(lH a b).length<=a.length+1:=by
 induction a with
 |nil=>simp[lH]
 |cons d a c=>unfold lH;split<;>(try split)<;>simp<;>omega
def mem_modify{c:Type}{b:List c}{i:Nat}{g:c->c}{e:c}(h:e∈b.modify i g):e∈b\/∃f∈b,e=g f:=by
 have⟨j,a⟩:=List.mem_iff_getElem?.1 h;rw[List.getElem?_modify]at a;split at a
 ·cases d:b[j]? with
  |none=>rw[d]at a;simp at a
  |some f=>rw[d]at a;simp at a;exact .inr ⟨f,ax d,a.symm⟩
 ·exact .inl (ax (by simpa using a))
def Re{b:fa}(d:b.El){h:Int}{c:dP->dP}(f:∀a∈b.dW,HJ (c a).ed):(b.ot h c).El:=by
 intro a hl;rcases mem_modify hl with e|⟨i,g,rfl⟩
 ·exact d a e
 ·exact f i g
def pG{e:Type}(b:e->Prop){a:Prop} [Decidable a]{c d:e}(f:a->b c)(g:¬a->b d):b (if a then c else d):=by
 split
 ·exact f (by assumption)
 ·exact g (by assumption)
def uo{P:fa×Int->Prop}{p:dR}{b:fa}{e m g q:Int}(p0:P (b,0))(p1:P (b,-1))(pt:∀h c d,P (b.oD h c,d))(f:∀h c,(∀a,(c a).ed=a.ed\/(c a).ed=lH a.ed e\/(c a).ed=a.ed.filter λi=> !decide (i=e))->P (b.ot h c,0)/\∀l k,P ((b.ot h c).oD l k,0))
 (j:∀d,P ({b with tx:=d},0)) (o:∀c d,P ({b with dC:=b.dC.map c},d)) (n:∀d,P ({b with done:=b.done.set d true},0)):P (ei p b e m g q):=by
 unfold ei;refine pG P (λ_=>pt _ _ _) λ_=>?_;refine pG P (λ_=>pt _ _ _) λ_=>?_;refine pG P (λ_=>(f g (λa=>{a with iy:=e}) λ_=> .inl rfl).1) λ_=>?_;refine pG P (λ_=>(f g (λa=>{a with iy:=-1}) λ_=> .inl rfl).1) λ_=>?_;refine pG P (λ_=>(f g (λa=>{a with ed:=lH a.ed e}) λ_=> .inr (.inl rfl)).1) λ_=>?_;refine pG P (λ_=>(f g (λa=>{a with ed:=a.ed.filter λi=> !decide (i=e)}) λ_=> .inr (.inr rfl)).1) λ_=>?_;refine pG P (λ_=>j _) λ_=>?_;refine pG P (λ_=>j _) λ_=>?_;refine pG P (λ_=>pt _ _ _) λ_=>?_;refine pG P (λ_=>pt _ _ _) λ_=>?_;refine pG P (λ_=>(f _ (λa=>{a with iy:=-1}) λ_=> .inl rfl).2 _ _) λ_=>?_;refine pG P (λ_=>(f _ (λa=>{a with iy:=e}) λ_=> .inl rfl).2 _ _) λ_=>?_;refine pG P (λ_=>pG P (λ_=>p1) λ_=>pt _ _ _) λ_=>?_;refine pG P (λ_=>o _ _) λ_=>?_;refine pG P (λ_=>pt _ _ _) λ_=>?_;exact pG P (λ_=>n _) λ_=>p0
def xI{i:fa}(b:i.El)(m:dR)(g k l n:Int):(ei m i g k l n).1.El:=by
 have j:∀(d:Int) (c:dP->dP),(∀a,(c a).ed=a.ed\/(c a).ed=lH a.ed g\/(c a).ed=a.ed.filter λh=> !decide (h=g))->(i.ot d c).El:=λd c f=>Re b λa hl=>by
  rcases f a with e|e|e<;>rw[e]
  ·exact b a hl
  ·exact Ci (b a hl) g
  ·exact(b a hl).filter _
 exact uo (P:=λh=>h.1.El) b b (λ_ _ _=>b) (λd c f=>⟨j d c f,λ_ _=>j d c f⟩) (λ_=>b) (λ_ _=>b) (λ_=>b)
def xH(f:dR)(a:fa)(e b c g:Int):(ei f a e b c g).1.dW.length=a.dW.length/\(ei f a e b c g).1.done.length=a.done.length/\(ei f a e b c g).1.dC.length=a.dC.length:=
 uo (P:=λd=>d.1.dW.length=a.dW.length/\d.1.done.length=a.done.length/\d.1.dC.length=a.dC.length) ⟨rfl,rfl,rfl⟩ ⟨rfl,rfl,rfl⟩ (λ_ _ _=>by simp[fa.oD]) (λ_ _ _=>by simp[fa.oD,fa.ot]) (λ_=>⟨rfl,rfl,rfl⟩) (λ_ _=>by simp) (λ_=>by simp)
def LJ{a:List Int}{b:Int}(d:∀c∈a,c<b):lH a b=a++[b]:=by
 induction a with
 |nil=>rfl
 |cons g a f=>unfold lH;rw[aq (d g J),f λc e=>d c (by simp[e])];rfl
def LL:∀(b a:List Int),HJ (a++b)->b.foldl lH a=a++b:=by
 intro b;induction b with
 |nil=>intro a _;simp
 |cons c b h=>
  intro a e;have f:∀d∈a,d<c:=λd g=>(List.pairwise_append.1 e).2.2 d g c J;rw[List.foldl_cons,LJ f,h (a++[c]) (by simpa using e)];simp
def KO{a:List Int}(c:HJ a)(b:Int): [b].foldl lH (a.foldl lH [])=lH a b:=by
 rw[LL a [] (by simpa using c)];rfl
def mT(b:dR)(a:dZ):Bool:=lY b a.fk&&decide (a.cells.length=b.cells.length)&&decide (a.dU.length=b.dU.length)&&decide (a.count.length=b.dC.length)
def xl(b:Int):aa Int->List Int->Bool
 |_,[]=>true
 |p,a::c=> !(decide (a<1))&& !(decide (b<=a))&&(match p with|some d=> !(decide (a<=d))|none=>true)&&xl b (some a) c
def nj(b:dZ)(a:dY):Bool:=
 if a.kind=3 then(match vC b.cells a.obj with|some c=>decide (a.value=c)|none=>false)
 else if a.kind=23 then(match vC b.dU a.obj with|some c=>decide (a.value=c)|none=>false)
 else if a.kind=5 then decide (a.value=0)||decide (a.value=1)
 else if a.kind=4\/a.kind=22 then true
 else if a.kind=18 then(if hU a.obj b.fk.dC 0=[]then decide (a.value=-1)else decide (0<=a.value)&&decide (a.value<b.fk.dC.length)&&decide (a.value∈hU a.obj b.fk.dC 0))
 else if a.kind=19 then decide (a.value=(hU a.obj b.fk.dC 0).length)
 else decide (a.value=0)
def Ao(d c:Int):List dY->Nat->Bool->Bool
 | [],_,a=>a
 |e::f,b,a=>if e.dQ=d then Ao d c f (b+1) (a||(decide ((b:Int)=c)&&(decide (e.kind=3)||decide (e.kind=23))))else Ao d c f b a
def uO(a:List dY)(d:Int)(c:List Int):Bool:=c.all λb=>Ao d b a 0 false
def KM(c:Int):∀(a:List dE) (b:Nat),(hU c a b).length<=a.length:=by
 intro a;induction a with
 |nil=>intro b;simp[hU]
 |cons e a d=>intro b;rw[hU];have:=d (b+1);split<;>simp<;>omega
def vI(a:dY):Bool:=decide (a.kind=3)||decide (a.kind=4)
def ks(a b:dY):Bool:=vI a&&vI b&&decide (a.obj=b.obj)&&(decide (a.kind=4)||decide (b.kind=4))
def pN(a:Int):Bool:=decide (a=6)||decide (a=8)||decide (a=10)||decide (a=17)||decide (a=21)
def ql(b:List dY)(a:Int):dY:=(vC b a).getD default
def sh(a:List Int)(b:Int)(c:Nat):Int:=match a with
 | []=>-1
 |x::a=>if x=b then c else sh a b (c+1)
def Ik{c:Int}:∀{a:List Int} {b:Nat},0<=sh a c b↔c∈a:=by
 intro a;induction a with
 |nil=>intro b;simp[sh]
 |cons e a d=>intro b;unfold sh;grind
structure GX where
 w:dR
 ev:List dY
 st:List fa
def GX.e(b:GX)(a:Int):dY:=ql b.ev a
def GX.s(b:GX)(a:Int):fa:=(vC b.st a).getD default
def GX.Uq(d:GX)(a b:Int)(c:dY->Bool):Bool:=((d.ev.drop a.toNat).take (b-a).toNat).all c
def GX.rD(a:GX)(c b:Int):Bool:=
 if(a.e b).dQ=(a.e c).dQ then false
 else if(a.e b).kind=6\/(a.e b).kind=10 then decide ((ls (a.s c) (a.e b).obj).iy=(a.e c).dQ)||decide ((a.e c).dQ∈(ls (a.s c) (a.e b).obj).ed)
 else if(a.e b).kind=8 then decide ((ls (a.s c) (a.e b).obj).iy=(a.e c).dQ)
 else if(a.e b).kind=17 then decide ((qZ a.w (a.s c) (a.e b).obj).iy=(a.e c).dQ)
 else if(a.e b).kind=21 then decide ((a.e b).obj=(a.e c).dQ)
 else false
def GX.vz(b:GX)(a c:Int):Bool:=pN (b.e a).kind&&b.rD a c
def GX.L7{b:GX}{j a:Int}(c:b.rD j a=true):pN (b.e a).kind=true:=by
 unfold GX.rD at c;unfold pN;by_cases h:(b.e a).kind=6
 ·simp[h]
 by_cases d:(b.e a).kind=10
 ·simp[d]
 by_cases i:(b.e a).kind=8
 ·simp[i]
 by_cases f:(b.e a).kind=17
 ·simp[f]
 by_cases g:(b.e a).kind=21
 ·simp[g]
 simp[h,d,i,f,g]at c
def GX.Ms(c:GX)(d:Int->Int->Bool)(a:List Int):Bool:=
 decide (2<=a.length)&&decide (a.length<=4)&&(a.all λb=>iR b c.ev.length)&&(List.range a.length).all λb=>
  !decide (a.getD b 0<a.getD 0 0)&&d (a.getD ((b+1)% a.length) 0) (a.getD b 0)&&(List.range b).all λf=> !decide ((c.e (a.getD b 0)).dQ=(c.e (a.getD f 0)).dQ)
def GX.Wg(e:GX)(d:List Int):e.Ms e.vz d=e.Ms e.rD d:=by
 unfold GX.Ms;by_cases hl:2<=d.length;rotate_left
 ·simp[hl]
 congr 1;rw[bg,cw,cw];constructor
 ·intro a c f;have:=a c f;simp only[az,GX.vz]at this|-;exact⟨⟨this.1.1,this.1.2.2⟩,this.2⟩
 ·intro a c f;have b:=a c f;have g:=a ((c+1)% d.length) (by rw[List.mem_range];exact Nat.mod_lt _ B);simp only[az,GX.vz]at b g|-;exact⟨⟨b.1.1,GX.L7 g.1.2,b.1.2⟩,b.2⟩
def GX.dead(g:GX)(f:Int->Int->Bool)(e:jq):Bool:=decide (e.a=0)&&decide (e.b=0)&&decide (e.c=0)&&decide (e.d=0)&&g.Ms f e.kA
def GX.QC(a:GX)(b c:Int):Bool:=decide (b<c)&& !decide ((a.e b).dQ=(a.e c).dQ)&&ks (a.e b) (a.e c)&& !((vC a.w.cells (a.e b).obj).getD default).sK
def GX.Qg(a:GX)(b c:Int):Bool:=
 decide (c<b)&&(decide ((a.e b).kind=18)||decide ((a.e b).kind=19))&&decide ((a.e c).kind=16)&&decide ((a.e b).obj=(a.e c).obj)&& !decide ((a.e b).dQ=(a.e c).dQ)&&
  a.Uq (c+1) b (λd=> !decide (d.dQ=(a.e c).dQ))&&decide ((ow (a.s b) (a.e c).dQ).iv=3)&&(decide ((a.e b).kind=19)||decide ((a.e b).value=(a.e c).dQ))
def GX.yG(b:Int)(a:dY):Bool:= !(decide (a.dQ=b)&&decide (a.kind=15))
def GX.W8(b:GX)(a c:Int):Bool:=
 decide (a<c)&&decide ((b.e c).dQ=(b.e a).dQ)&&(ow (b.s a) (b.e a).dQ).atomic&&b.Uq (a+1) c (GX.yG (b.e a).dQ)
def GX.WP(a:GX)(d f b c:Int):Bool:=
 decide (b<=c)&&decide ((a.e b).dQ=(a.e c).dQ)&& !decide ((a.e b).dQ=(a.e d).dQ)&&ks (a.e d) (a.e b)&&ks (a.e c) (a.e f)
def GX.Jg(a:GX)(b c d f:Int):Bool:=
 decide (b<c)&&decide (d<=f)&&decide ((a.e b).dQ=(a.e c).dQ)&&decide ((a.e d).dQ=(a.e f).dQ)&& !decide ((a.e b).dQ=(a.e d).dQ)&&ks (a.e b) (a.e d)&&ks (a.e f) (a.e c)&&
  a.Uq b c (GX.yG (a.e b).dQ)&&(ow (a.s b) (a.e b).dQ).atomic
def GX.AC(b:GX)(a:Int):Bool:=iR a b.ev.length
def GX.vR(f:GX)(e:jq):Bool:=
 if e.kind=2 then f.dead f.rD e
 else if(f.AC e.a&&f.AC e.b&&f.AC e.c&&f.AC e.d)=true then
  (
   if e.kind=1 then decide (e.c=0)&&decide (e.d=0)&&decide (e.kA=[])&&f.QC e.a e.b
   else if e.kind=3 then decide (e.c=0)&&decide (e.d=0)&&decide (e.kA=[])&&f.Qg e.a e.b
   else if e.kind=4 then decide (e.kA=[])&&f.Jg e.a e.b e.c e.d
   else false)
 else false
def GX.vG(f:GX)(e:jq):Bool:=
 if e.kind=1 then decide (e.c=0)&&decide (e.d=0)&&decide (e.kA=[])&&(f.AC e.a&&f.AC e.b)&&f.QC e.a e.b
 else if e.kind=2 then f.dead f.vz e
 else if e.kind=3 then decide (e.c=0)&&decide (e.d=0)&&decide (e.kA=[])&&(f.AC e.a&&f.AC e.b)&&f.Qg e.a e.b
 else if e.kind=4 then decide (e.kA=[])&&(f.AC e.a&&f.AC e.b&&f.AC e.c&&f.AC e.d)&&f.W8 e.a e.b&&f.WP e.a e.b e.c e.d
 else false
def GX.in0{a:GX}{b:Int}(c:a.AC b=true):a.AC 0=true:=by
 unfold GX.AC at*
 rw[ff]at*
 omega
def GX.WO{b:GX}{a c g r:Int}(u:b.AC a=true):(b.W8 a c&&b.WP a c g r)=b.Jg a c g r:=by
 have w:ks (b.e a) (b.e g)=true->a<c->b.Uq a c (GX.yG (b.e a).dQ)=b.Uq (a+1) c (GX.yG (b.e a).dQ):=by
  intro d q;have⟨t,f⟩:=ff.1 u;unfold GX.Uq;have s:b.ev.drop a.toNat=b.e a::b.ev.drop (a+1).toNat:=by
   rw[show(a+1).toNat=a.toNat+1 by omega,aH f];congr 1;unfold GX.e ql vC;rw[aq t];simp[f]
  rw[s,show(c-a).toNat=(c-(a+1)).toNat+1 by omega,List.take_succ_cons,cq];have v:GX.yG (b.e a).dQ (b.e a)=true:=by
   unfold GX.yG;unfold ks vI at d;simp only[az,bM,aL]at d;rcases d.1.1.1 with h|h<;>simp[h]
  rw[v,bD]
 unfold GX.W8 GX.WP GX.Jg;by_cases d:ks (b.e a) (b.e g)=true
 ·by_cases q:a<c
  ·rw[w d q];rw[bg];simp only[az,aL,bF,aZ];constructor
   ·rintro⟨⟨⟨⟨f,i⟩,j⟩,k⟩,⟨⟨⟨l,m⟩,n⟩,o⟩,p⟩;exact⟨⟨⟨⟨⟨⟨⟨⟨f,l⟩,i.symm⟩,m⟩,λh=>n h.symm⟩,o⟩,p⟩,k⟩,j⟩
   ·rintro⟨⟨⟨⟨⟨⟨⟨⟨f,l⟩,i⟩,m⟩,n⟩,o⟩,p⟩,k⟩,j⟩;exact⟨⟨⟨⟨f,i.symm⟩,j⟩,k⟩,⟨⟨⟨l,m⟩,λh=>n h.symm⟩,o⟩,p⟩
  ·simp[q]
 ·rw[Bool.not_eq_true]at d;simp[d]
def GX.aew(f:GX)(e:jq):f.vG e=f.vR e:=by
 unfold GX.vG GX.vR;by_cases g:e.kind=1
 ·rw[aq g,ao B,aq g];by_cases j:e.c=0;rotate_left
  ·simp[j]
  by_cases k:e.d=0;rotate_left
  ·simp[k]
  rw[j,k];cases i:f.AC e.a with
  |false=>simp
  |true=>rw[GX.in0 i];cases f.AC e.b<;>simp
 rw[ao g];by_cases l:e.kind=2
 ·rw[aq l,aq l];unfold GX.dead;rw[GX.Wg]
 rw[ao l,ao l];by_cases h:e.kind=3
 ·rw[aq h,ao g,aq h];by_cases j:e.c=0;rotate_left
  ·simp[j]
  by_cases k:e.d=0;rotate_left
  ·simp[k]
  rw[j,k];cases i:f.AC e.a with
  |false=>simp
  |true=>rw[GX.in0 i];cases f.AC e.b<;>simp
 rw[ao h];by_cases m:e.kind=4
 ·rw[aq m,ao g,ao h,aq m];cases i:f.AC e.a with
  |false=>simp
  |true=>
   rw[<-GX.WO i];cases (f.AC e.b)<;>cases f.AC e.c<;>cases f.AC e.d<;>simp[Bool.and_assoc]
 rw[ao m,ao g,ao h,ao m];simp
section
def kT(a:dY):Int:=if a.kind=18 then a.value else-1
def rH(b:dR)(a:dY):Bool:=if a.kind=1\/a.kind=2 then decide (a.iQ=-1)else(match vC b.io a.iQ with|some c=>decide (c.dQ=a.dQ)|none=>false)
def sizeOf(b:dR)(a:Int):Int:=((vC b.cells a).getD default).size
def Ke(b:dR)(a:dY):Bool:=decide (a.mo=[])||decide (a.kind=5)||(vI a&& !decide (sizeOf b a.obj=0))
def J9(a:dY):Bool:=decide (a.uA=[])||decide (a.kind=4)||decide (a.kind=22)
def oK(c:dR)(b:dZ)(a:dY):Bool:=
 mT c b&&iR a.dQ c.dC.length&&(decide (1<=a.kind)&&decide (a.kind<=23))&&jw c b.fk a.dQ a.kind a.obj&&rH c a&&Ke c a&&J9 a&&
  xl (b.count.getD a.dQ.toNat 0) none a.mo&&xl (b.count.getD a.dQ.toNat 0) none a.uA&&nj b a
def jO(c:dR)(b:dZ)(a:dY):dZ:=
 ⟨(ei c b.fk a.dQ a.kind a.obj (kT a)).1,if a.kind=4 then b.cells.set a.obj.toNat a.value else b.cells,if a.kind=22 then b.dU.set a.obj.toNat a.value else b.dU,b.count.modify a.dQ.toNat (· +1)⟩
def sa:dZ:=⟨⟨[],0,[],[]⟩,[],[],[]⟩
def jx(c:dR)(b:dZ)(a:dY):dZ×Bool:=if oK c b a=true then(jO c b a,true)else(sa,false)
section
variable {S E:Type}
def rI(ok:S->E->Bool)(nx:S->E->S):S->List E->Bool
 |_,[]=>true
 |s,a::b=>ok s a&&rI ok nx (nx s a) b
def w9(nx:S->E->S):S->List E->List S
 |_,[]=>[]
 |s,a::b=>s::w9 nx (nx s a) b
def vH(go:S->E->S):S->List E->S
 |s,[]=>s
 |s,a::b=>vH go (go s a) b
variable {ok:S->E->Bool}{nx go:S->E->S}
def HZ:∀(a:List E) (b:S),(w9 nx b a).length=a.length:=by
 intro a;induction a with
 |nil=>intro b;rfl
 |cons d a c=>intro b;simp[w9,c]
def KZ(f:∀a b,ok a b=true->go a b=nx a b):∀(c d:List E) (a:S),rI ok nx a (c++d)=(rI ok nx a c&&rI ok nx (vH go a c) d):=by
 intro c;induction c with
 |nil=>intro d a;simp[rI,vH]
 |cons b c g=>
  intro d a;simp only[cy,rI,vH];cases e:ok a b with
  |true=>rw[g,f a b e,bD,bD]
  |false=>simp
def HB:∀(a b:List E) (c:S),vH go c (a++b)=vH go (vH go c a) b:=by
 intro a;induction a with
 |nil=>intro b c;rfl
 |cons e a d=>intro b c;simp only[cy,vH,d]
def H3(g:∀a d,ok a d=true->go a d=nx a d):∀(c:List E) (a:S) (b:Nat),rI ok nx a c=true->b<c.length->(w9 nx a c)[b]? =some (vH go a (c.take b)):=by
 intro c;induction c with
 |nil=>intro a b _ f;simp at f
 |cons d c h=>
  intro a b e f;simp only[rI,az]at e;cases b with
  |zero=>simp[w9,vH]
  |succ b=>
   simp only[w9,da,List.take_succ_cons,vH];rw[g a d e.1];exact h _ b e.2 (by simpa using f)
def MT(g:∀b a,ok b a=true->go b a=nx b a):∀(d:List E) (b:S) (c:Nat) (a:E),rI ok nx b d=true->d[c]? =some a->ok (vH go b (d.take c)) a=true:=by
 intro d;induction d with
 |nil=>intro b c a _ e;simp at e
 |cons i d h=>
  intro b c a f e;simp only[rI,az]at f;cases c with
  |zero=>simp at e;subst e;simpa[vH]using f.1
  |succ c=>
   simp only[List.take_succ_cons,vH];rw[g b i f.1];exact h _ c a f.2 (by simpa using e)
def PM{I:S->Prop}(e:∀a c,I a->I (go a c)):∀(b:List E) (a:S),I a->I (vH go a b):=by
 intro b;induction b with
 |nil=>intro a d;exact d
 |cons c b f=>intro a d;exact f _ (e a c d)
end
def runs(a:dR):dZ->List dY->Bool:=rI (oK a) (jO a)
def ML(a:dR):dZ->List dY->List dZ:=w9 (jO a)
def nP(w:dR):dZ->List dY->dZ:=vH λb a=>(jx w b a).1
def qr{c:dR}(b:dZ)(a:dY)(d:oK c b a=true):(jx c b a).1=jO c b a:=by unfold jx;rw[aq d]
def KW(c:dR)(a:List dY)(b:dZ):(ML c b a).length=a.length:=HZ a b
def BC(b:dR)(c d:List dY)(a:dZ):runs b a (c++d)=(runs b a c&&runs b (nP b a c) d):=KZ (go:=λa e=>(jx b a e).1) qr c d a
def vM{e:dR}{a:List dY}{d:dZ}(b:runs e d a=true)(c:Nat):runs e d (a.take c)=true:=by
 rw[<-cF c a,BC,az]at b;exact b.1
def MR{c:dR}{a:List dY}{f:dZ}(d:runs c f a=true)(b e:Nat):runs c (nP c f (a.take b)) ((a.drop b).take e)=true:=by
 rw[<-cF b a,BC,az]at d;exact vM d.2 e
def KX{d:dR}(b:List dY)(a:dZ)(c:Nat)(f:runs d a b=true)(g:c<b.length):(ML d a b)[c]? =some (nP d a (b.take c)):=H3 (go:=λa e=>(jx d a e).1) qr b a c f g
def Qz{d:dR}(c:List dY)(b:dZ)(e:Nat)(a:dY)(f:runs d b c=true)(g:c[e]? =some a):oK d (nP d b (c.take e)) a=true:=MT (go:=λb a=>(jx d b a).1) qr c b e a f g
def qu{c:dR}{d:dZ}{a:dY}(b:oK c d a=true):mT c d=true/\iR a.dQ c.dC.length=true/\jw c d.fk a.dQ a.kind a.obj=true:=by
 unfold oK at b;simp only[az]at b;exact⟨b.1.1.1.1.1.1.1.1.1,b.1.1.1.1.1.1.1.1.2,b.1.1.1.1.1.1.2⟩
structure wY(w:eJ):Prop where
 len:w.dI.length<=16
 oD:w.ew.dC.length<=4
 run:runs w.ew w.jA w.dI=true
 El:w.jA.fk.El
def eJ.gx(c:eJ):GX:=⟨c.ew,c.dI,(ML c.ew c.jA c.dI).map dZ.fk⟩
def wY.ok{a:eJ}(b:wY a){i:Nat}{e:dY}(c:a.dI[i]? =some e):oK a.ew (nP a.ew a.jA (a.dI.take i)) e=true:=Qz _ _ _ _ b.run c
def wY.st{a:eJ}(c:wY a){b:Nat}(d:b<a.dI.length):a.gx.st[b]? =some (nP a.ew a.jA (a.dI.take b)).fk:=by
 unfold eJ.gx;rw[aQ,KX _ _ _ c.run d];rfl
def wY.e{a:eJ}(d:wY a){i:Int}(g:iR i a.dI.length=true):∃e,a.dI[i.toNat]? =some e/\a.gx.e i=e/\iR e.dQ a.ew.dC.length=true/\ju a.ew e.kind e.obj=true:=by
 have⟨f,b⟩:=ff.1 g;refine⟨a.dI[i.toNat],by simp[b],?_,?_⟩
 ·unfold GX.e ql vC eJ.gx;rw[aq f];simp[b]
 ·have:=d.ok (i:=i.toNat) (e:=a.dI[i.toNat]) (by simp[b]);have⟨_,h,c⟩:=qu this;refine⟨h,?_⟩;unfold jw at c;simp only[az]at c;exact c.1.2
def wY.s{a:eJ}(c:wY a){i:Int}(g:iR i a.dI.length=true):a.gx.s i=(nP a.ew a.jA (a.dI.take i.toNat)).fk/\lY a.ew (a.gx.s i)=true:=by
 have⟨f,d⟩:=ff.1 g;have h:=c.st d;have b:a.gx.s i=(nP a.ew a.jA (a.dI.take i.toNat)).fk:=by
  unfold GX.s vC;rw[aq f,h];rfl
 refine⟨b,?_⟩;rw[b];have:=(qu (c.ok (i:=i.toNat) (e:=a.dI[i.toNat]) (by simp[d]))).1;unfold mT at this;simp only[az]at this;exact this.1.1.1
def HY{b:dR}{a:dZ}{c:dY}(d:a.fk.El):(jx b a c).1.fk.El:=by
 unfold jx;split
 ·exact xI d b _ _ _ _
 ·intro e hl;simp[sa]at hl
def R2{d:dR}(c:List dY)(a:dZ)(b:a.fk.El):(nP d a c).fk.El:=PM (I:=λa=>a.fk.El) (λ_ _ b=>HY b) c a b
def kK(a:dR):fa:=⟨a.dW.map λ_=>⟨-1,[]⟩,-1,a.dU.map λ_=>false,(List.range a.dC.length).map λb=>⟨if b=0 then 1 else 0,0,false⟩⟩
def js(a:dR):dZ:=⟨kK a,a.cells.map fW.jA,a.dU.map λ_=>0,a.dC.map λ_=>0⟩
def rF(a:dR):(js a).fk.El:=by
 intro b hl;unfold js kK at hl;simp only[List.mem_map]at hl;obtain⟨_,_,rfl⟩:=hl;exact List.Pairwise.nil
def wD(b:dR)(c:List dY)(d a:Nat):eJ:=⟨b,a,nP b (js b) (c.take a),(c.drop a).take d⟩
def Mw{a:dR}{d:List dY}(e:runs a (js a) d=true)(ht:a.dC.length<=4){b:Nat}(f:b<=16)(c:Nat):wY (wD a d b c):=
 ⟨by simp[wD];omega,ht,MR e c b,R2 _ _ (rF a)⟩
end
end
end Go.Proofs.YtbappgeamhmmbaaGreatDoor
namespace Go.TI
noncomputable section
section
attribute [-simp] ez TI.d8
section
def gT(a:Bool)(b:T):T:=match a with|true=>b|false=> .undef
@[simp]def acT (a:T):gT true a=a:=id rfl
@[simp]def abn (a:T):gT false a= .undef:=id rfl
@[simp]theorem agQ (a:Bool) (b:T):gT a (gT a b)=gT a b:=by cases a<;>rfl
def Ua(a:Bool)(b c:T):T:=match a with|true=>b|false=>c
@[simp]theorem aaM (b:Bool) (a:T):Ua b a a=a:=by cases b<;>rfl
@[simp]theorem agB (a:Bool) (b:T):Ua a b .undef=gT a b:=by cases a<;>rfl
@[simp]theorem agA (a:Bool) (b:T):Ua a .undef b=gT (!a) b:=by cases a<;>rfl
@[simp]theorem agD (a b c:Bool):Ua a (.bool b) (.bool c)= .bool (bif a then b else c):=by cases a<;>rfl
@[simp]theorem agC (a:Bool) (b:ak) (c d:Int):Ua a (.int b c) (.int b d)= .int b (bif a then c else d):=by cases a<;>rfl
def Ra(a:Bool)(b c:fH):fH:=match a with|true=>b|false=>c
@[simp]theorem aaK (b:Bool) (a:fH):Ra b a a=a:=by cases b<;>rfl
@[simp]theorem aaL (a:Bool) (b:Nat) (e g:T) (c d:fH):Ra a (.cons b e c) (.cons b g d)= .cons b (Ua a e g) (Ra a c d):=by cases a<;>rfl
@[simp]theorem acG (a:Bool) (b:Nat) (e g:T) (c d:fH):Ra a (put c b e) (put d b g)=put (Ra a c d) b (Ua a e g):=by cases a<;>rfl
@[simp]theorem ad5 (a b:Bool):(bif a then true else b)=(a||b):=by cases a<;>rfl
@[simp]theorem ad7 (a b:Bool):(bif a then b else false)=(a&&b):=by cases a<;>rfl
@[simp]theorem ad6 (a:Bool):(bif a then true else false)=a:=by cases a<;>rfl
def tS:fH->Nat->T->fH
 | .nil,_,_=> .nil
 | .cons a e b,c,d=>if a=c then .cons a d b else .cons a e (tS b c d)
@[simp]def ZN (a:Nat) (b:T):tS .nil a b= .nil:=id rfl
@[simp]def KY (a c:Nat) (e d:T) (b:fH):tS (.cons a e b) c d=if a=c then .cons a d b else .cons a e (tS b c d):=id rfl
def sN:∀{c:fH} {b:Nat} {d:T},dG c b=some d->tS c b d=c
 | .nil,_,_,_=>rfl
 | .cons e i g,b,d,h=>by
  rw[lN]at h;rw[KY];by_cases a:e=b
  ·rw[aq a]at h;simp only[ar]at h;rw[aq a,h]
  ·rw[ao a]at h;rw[ao a,sN h]
def C6(a:Nat):List Oper->List Oper
 | []=>[]
 |o::c=>match o.guard with|some (b,_)=>if a<=b then o::C6 a c else []|none=>[]
def I6(b:Nat):List Oper->List Oper
 | []=>[]
 |o::a=>match o.guard with|some (c,_)=>if b<=c then I6 b a else o::a|none=>o::a
def MF(b:Nat):∀a,C6 b a++I6 b a=a
 | []=>rfl
 |o::a=>by
  unfold C6 I6;cases o.guard with
  |none=>rfl
  |some c=>
   simp only;split
   ·rw[cy,MF b a]
   ·rfl
section
variable {cx:Ctx}{cf:iH}{G:Nat}
@[simp]def aco (a:Nat):C6 a []=[]:=id rfl
@[simp]def adc (a:Nat):I6 a []=[]:=id rfl
@[simp]def ags (c:Nat) (b:aa Tmp) (e:Op) (i:ab) (g:String) (a:af Edge) (d:List Oper):C6 c (⟨b,e,i,g,a,none⟩::d)=[]:=id rfl
@[simp]def agS (i:Nat) (b:aa Tmp) (d:Op) (g:ab) (e:String) (a:af Edge) (c:List Oper):I6 i (⟨b,d,g,e,a,none⟩::c)=⟨b,d,g,e,a,none⟩::c:=id rfl
@[simp]def agt (a b:Nat) (d:Bool) (e:aa Tmp) (i:Op) (k:ab) (j:String) (c:af Edge) (g:List Oper):C6 a (⟨e,i,k,j,c,some (b,d)⟩::g)=if a<=b then⟨e,i,k,j,c,some (b,d)⟩::C6 a g else []:=id rfl
@[simp]def agT (a b:Nat) (e:Bool) (g:aa Tmp) (i:Op) (k:ab) (j:String) (d:af Edge) (c:List Oper):I6 a (⟨g,i,k,j,d,some (b,e)⟩::c)=if a<=b then I6 a c else⟨g,i,k,j,d,some (b,e)⟩::c:=id rfl
def uN(a:af Oper)(c:Oper)(g:List Oper)(b:Env)(h:H):
 kh cx cf G a (c::g) b h=M (xR cx cf G a b h c) λi=>two i λj e=>M (b.dst G c.dst j) λd=>kh cx cf G a g d e:=by
 show(M (kU cx cf G a b h c) λi=>two i λd e=>kh cx cf G a g d e)=_;rw[qg]
def sd(b:af Oper):∀(c d:List Oper) (a:Env) (h:H),kh cx cf G b (c++d) a h=M (kh cx cf G b c a h) λi=>two i λe g=>kh cx cf G b d e g
 | [],_,_,_=>rfl
 |o::c,d,a,h=>by
  rw[cy,uN,uN];cases xR cx cf G b a h o with
  |none=>rfl
  |some i=>
   obtain⟨j,g⟩:=i;simp only[dS,km];cases a.dst G o.dst j with
   |none=>rfl
   |some e=>simp only[dS];exact sd b c d e g
def pP(cx:Ctx)(cf:iH)(G:Nat)(b:af Oper)(a:List Oper)(d c:fH)(h:H):aa (Env×H):=kh cx cf G b a ⟨d,c⟩ h
def SG(l:aa (T×H))(cx:Ctx)(cf:iH)(G:Nat)(e:af Oper)(a:aa Tmp)(d:List Oper)(k i:fH):aa (Env×H):=
 M l λg=>two g λj c=>M (Env.dst G ⟨k,i⟩ a j) λb=>kh cx cf G e d b c
@[simp]def ZQ (c:af Oper) (b a:fH) (h:H):pP cx cf G c [] b a h=some (⟨b,a⟩,h):=id rfl
def OQ(d b:fH)(a:Tmp)(c:T):Env.dst G ⟨d,b⟩ (some a) c=some (if(G>>>a)&&&1=1 then⟨put d a c,b⟩else⟨d,.cons a c b⟩):=by
 show @Bool.rec (λ_=>aa Env) (some ⟨d,.cons a c b⟩) (M (li d a c) λe=>some ⟨e,b⟩) (jX G a)=_;rw[oF];have:=Ce G a;cases hl:jX G a with
 |true=>rw[aq (by rw[<-this];exact hl)];rfl
 |false=>rw[ao (by rw[<-this,hl];simp)]
@[simp]theorem aeh (e:T) (h:H) (c:af Oper) (a:Tmp) (b:List Oper) (g d:fH):SG (some (e,h)) cx cf G c (some a) b g d=
 if(G>>>a)&&&1=1 then pP cx cf G c b (put g a e) d h else pP cx cf G c b g (.cons a e d) h:=by
 unfold SG;rw[dS,km,OQ,dS];split<;>rfl
@[simp]def aei (e:T) (h:H) (b:af Oper) (a:List Oper) (d c:fH):SG (some (e,h)) cx cf G b none a d c=pP cx cf G b a d c h:=id rfl
def G3(o:aa Tmp)(i:aa Bool)(m:Nat)(l:Bool)(cx:Ctx)(cf:iH)(G:Nat)(g:af Oper)(c:aa Tmp)(e:Op)(p:ab)(n:String)(k:af Edge)(d:List Oper)(b a:fH)(h:H):aa (Env×H):=
 SG (M i λj=> @Bool.rec (λ_=>aa (T×H)) (some (.undef,h)) (fin cf h (iT e cx G ⟨b,a⟩ h)) j) cx cf G g c d b a
def H8(a:af Oper)(j:aa Tmp)(k:Op)(m:ab)(l:String)(i:af Edge)(c:Nat)(b:Bool)(d:List Oper)(g e:fH)(h:H)(n:aa Tmp):
 pP cx cf G a (⟨j,k,m,l,i,some (c,b)⟩::d) g e h=G3 n (ka a G ⟨g,e⟩ (some (c,b))) c b cx cf G a j k m l i d g e h:=uN a _ d _ h
@[simp]def FS (b:List Oper) (i:aa Tmp) (k:Op) (m:ab) (l:String) (g:af Edge) (a:Nat) (c:Bool) (j:List Oper) (e d:fH) (h:H):
 pP cx cf G b.toArray (⟨i,k,m,l,g,some (a,c)⟩::j) e d h=G3 (M (b[a]?) λn=>n.dst) (ka b.toArray G ⟨e,d⟩ (some (a,c))) a c cx cf G b.toArray i k m l g j e d h:=H8 b.toArray i k m l g a c j e d h _
@[simp]def aeo (m:aa Tmp) (k:Nat) (j:Bool) (g:af Oper) (c:aa Tmp) (e:Op) (n:ab) (l:String) (i:af Edge) (d:List Oper) (b a:fH) (h:H):G3 m (some true) k j cx cf G g c e n l i d b a h=SG (fin cf h (iT e cx G ⟨b,a⟩ h)) cx cf G g c d b a:=id rfl
@[simp]def aca (m:aa Tmp) (j:Nat) (i:Bool) (c:af Oper) (a:aa Tmp) (k:Op) (n:ab) (l:String) (g:af Edge) (b:List Oper) (e d:fH) (h:H):G3 m (some false) j i cx cf G c a k n l g b e d h=SG (some (.undef,h)) cx cf G c a b e d:=id rfl
def Xo(a:Bool)(g i:aa (Env×H))(cx:Ctx)(cf:iH)(G:Nat)(c:af Oper)(e:List Oper):aa (Env×H):=M (bif a then g else i) λd=>two d λb h=>kh cx cf G c e b h
@[congr] theorem YU {a b:Bool} {g i j k:aa (Env×H)} {c:af Oper} {d e:List Oper} (l:a=b) (m:g=i) (n:j=k) (hr:d=e):Xo a g j cx cf G c d=Xo b i k cx cf G c e:=by rw[l,m,n,hr]
@[simp]theorem aev (a:Bool) (g d i e:fH) (h:H) (b:af Oper) (c:List Oper):Xo a (some (⟨g,d⟩,h)) (some (⟨i,e⟩,h)) cx cf G b c=pP cx cf G b c (Ra a g i) (Ra a d e) h:=by cases a<;>rfl
def Kc{e c:fH}{a:Tmp}{d:T}(g:(G>>>a)&&&1=0)(b:Env.get G ⟨e,c⟩ a=some d):dG c a=some d:=by
 rw[A8,ao B]at b;exact b
def MW{b:List Oper}{g:Tmp}{i:Bool}{a:List Oper}{d c:fH}{h:H}(e:Nat)(n:(G>>>g)&&&1=0)(m:Env.get G ⟨d,c⟩ g=some (.bool i)):
 pP cx cf G b.toArray a d c h=Xo i (pP cx cf G b.toArray (C6 e a) d (tS c g (.bool true)) h) (pP cx cf G b.toArray (C6 e a) d (tS c g (.bool false)) h) cx cf G b.toArray (I6 e a):=by
 have j:=Kc n m;have:pP cx cf G b.toArray a d c h=M (pP cx cf G b.toArray (C6 e a) d c h) λo=>two o λk l=>kh cx cf G b.toArray (I6 e a) k l:=by
  show kh cx cf G b.toArray a ⟨d,c⟩ h=_
  conv=>lhs;rw[<-MF e a]
  exact sd _ _ _ _ _
 rw[this];cases i
 ·conv=>lhs;rw[<-sN j]
  rfl
 ·conv=>lhs;rw[<-sN j]
  rfl
def PY(d:List Oper)(b:Tmp)(o:Bool)(a:Nat)(c:Bool)(g:aa Tmp)(j:Op)(l:ab)(k:String)(e:af Edge)(i:List Oper)(n m:fH)(h:H)(r:Bool)
 (s:(G>>>b)&&&1=0) (p:(M (d[a]?) λu=>u.dst)=some b) (q:Env.get G ⟨n,m⟩ b=some (.bool o)) (t:r=(o==c)):
 G3 (some b) (some r) a c cx cf G d.toArray g j l k e i n m h=
  Xo o (pP cx cf G d.toArray (C6 a (⟨g,j,l,k,e,some (a,c)⟩::i)) n (tS m b (.bool true)) h) (pP cx cf G d.toArray (C6 a (⟨g,j,l,k,e,some (a,c)⟩::i)) n (tS m b (.bool false)) h) cx cf G d.toArray (I6 a (⟨g,j,l,k,e,some (a,c)⟩::i)):=by
 subst t;rw[<-MW a s q,FS,p,Bo,p,dS,q,Bn]
@[simp low] theorem aep (c:List Oper) (b:Tmp) (e:Bool) (a:Nat) (g:aa Tmp) (j:Op) (l:ab) (k:String) (d:af Edge) (i:List Oper) (n m:fH) (h:H)
 (q:(G>>>b)&&&1=0) (o:(M (c[a]?) λr=>r.dst)=some b) (p:Env.get G ⟨n,m⟩ b=some (.bool e)):
 G3 (some b) (some e) a true cx cf G c.toArray g j l k d i n m h=
  Xo e (pP cx cf G c.toArray (C6 a (⟨g,j,l,k,d,some (a,true)⟩::i)) n (tS m b (.bool true)) h) (pP cx cf G c.toArray (C6 a (⟨g,j,l,k,d,some (a,true)⟩::i)) n (tS m b (.bool false)) h) cx cf G c.toArray (I6 a (⟨g,j,l,k,d,some (a,true)⟩::i)):=
 PY c b e a true g j l k d i n m h e q o p J 
@[simp low] theorem aeq (d:List Oper) (b:Tmp) (c:Bool) (a:Nat) (g:aa Tmp) (j:Op) (l:ab) (k:String) (e:af Edge) (i:List Oper) (n m:fH) (h:H)
 (q:(G>>>b)&&&1=0) (o:(M (d[a]?) λr=>r.dst)=some b) (p:Env.get G ⟨n,m⟩ b=some (.bool !c)):
 G3 (some b) (some c) a false cx cf G d.toArray g j l k e i n m h=
  Xo (!c) (pP cx cf G d.toArray (C6 a (⟨g,j,l,k,e,some (a,false)⟩::i)) n (tS m b (.bool true)) h) (pP cx cf G d.toArray (C6 a (⟨g,j,l,k,e,some (a,false)⟩::i)) n (tS m b (.bool false)) h) cx cf G d.toArray (I6 a (⟨g,j,l,k,e,some (a,false)⟩::i)):=
 PY d b (!c) a false g j l k e i n m h c q o p (by cases c<;>rfl)
def G2(o:aa Tmp)(j:aa Bool)(m:Nat)(l:Bool)(cx:Ctx)(cf:iH)(G:Nat)(e:af Oper)(b:aa Tmp)(d:Op)(p:ab)(n:String)(k:af Edge)(c:List Oper)(i g:fH)(h:H)(a:iq):Prop:=GK j cx cf G e b d c i g h a
@[simp]def Mf (b:List Oper) (j:aa Tmp) (l:Op) (n:ab) (m:String) (i:af Edge) (a:Nat) (c:Bool) (k:List Oper) (e d:fH) (h:H) (g:iq):
 RK cx cf G b.toArray (⟨j,l,n,m,i,some (a,c)⟩::k) e d h g=G2 (M (b[a]?) λo=>o.dst) (ka b.toArray G ⟨e,d⟩ (some (a,c))) a c cx cf G b.toArray j l n m i k e d h g:=ez b.toArray j l n m i a c k e d h g
@[simp]def aer (n:aa Tmp) (l:Nat) (k:Bool) (i:af Oper) (d:aa Tmp) (g:Op) (o:ab) (m:String) (j:af Edge) (e:List Oper) (b a:fH) (h:H) (c:iq):G2 n (some true) l k cx cf G i d g o m j e b a h c=XK (fin cf h (iT g cx G ⟨b,a⟩ h)) cx cf G i d e b a c:=id rfl
@[simp]theorem acb (n:aa Tmp) (k:Nat) (j:Bool) (d:af Oper) (b:aa Tmp) (l:Op) (o:ab) (m:String) (i:af Edge) (c:List Oper) (g e:fH) (h:H) (a:iq):G2 n (some false) k j cx cf G d b l o m i c g e h a=XK (some (.undef,h)) cx cf G d b c g e a:=by
 unfold XK;rw[yV];rfl
def BG(c:Bool)(g i:aa (Env×H))(cx:Ctx)(cf:iH)(G:Nat)(d:af Oper)(e:List Oper)(b:iq):Prop:=
 (c=true->∃a h,g=some (a,h)/\RK cx cf G d e a.vars a.tmps h b)/\(c=false->∃a h,i=some (a,h)/\RK cx cf G d e a.vars a.tmps h b)
@[congr] theorem acl {b c:Bool} {i j k l:aa (Env×H)} {d:af Oper} {e g:List Oper} {a:iq} (m:b=c) (n:i=j) (o:k=l) (hr:e=g):BG b i k cx cf G d e a=BG c j l cx cf G d g a:=by rw[m,n,o,hr]
@[simp]def agk (c:Bool) (k i l j:fH) (h:H) (e:af Oper) (g:List Oper) (d:iq):BG c (some (⟨k,i⟩,h)) (some (⟨l,j⟩,h)) cx cf G e g d=RK cx cf G e g (Ra c k l) (Ra c i j) h d:=by
 unfold BG;apply propext;cases c
 ·constructor
  ·intro a;have⟨m,n,b,hr⟩:=a.2 rfl;simp only[ar,aB]at b;obtain⟨rfl,rfl⟩:=b;exact hr
  ·exact λa=>⟨λo=>by grind,λ_=>⟨_,_,rfl,a⟩⟩
 ·constructor
  ·intro a;have⟨m,n,b,hr⟩:=a.1 rfl;simp only[ar,aB]at b;obtain⟨rfl,rfl⟩:=b;exact hr
  ·exact λa=>⟨λ_=>⟨_,_,rfl,a⟩,λo=>by grind⟩
def Xf(e:af Oper)(g q:List Oper)(j i:fH)(h:H)(k:iq):RK cx cf G e (g++q) j i h k=∃l a,pP cx cf G e g j i h=some (l,a)/\RK cx cf G e q l.vars l.tmps a k:=by
 apply propext;show(∃b a,kh cx cf G e (g++q) ⟨j,i⟩ h=some (b,a)/\k.n ⟨b.vars,.nil⟩ a)↔_;rw[sd];constructor
 ·rintro⟨b,a,c,p⟩;have⟨⟨m,o⟩,d,c⟩:=dB.1 c;exact⟨m,o,d,b,a,c,p⟩
 ·rintro⟨m,o,d,b,a,c,p⟩;have d:kh cx cf G e g ⟨j,i⟩ h=some (m,o):=d;exact⟨b,a,by rw[d];exact c,p⟩
def PZ(i:List Oper)(k:Tmp)(o:Bool)(a:Nat)(b:Bool)(d:aa Tmp)(g:Op)(l:ab)(j:String)(c:af Edge)(e:List Oper)(n m:fH)(h:H)(p:iq)(t:Bool)
 (v:(G>>>k)&&&1=0) (q:(M (i[a]?) λx=>x.dst)=some k) (r:Env.get G ⟨n,m⟩ k=some (.bool o)) (w:t=(o==b)):
 G2 (some k) (some t) a b cx cf G i.toArray d g l j c e n m h p=
  BG o (pP cx cf G i.toArray (C6 a (⟨d,g,l,j,c,some (a,b)⟩::e)) n (tS m k (.bool true)) h) (pP cx cf G i.toArray (C6 a (⟨d,g,l,j,c,some (a,b)⟩::e)) n (tS m k (.bool false)) h) cx cf G i.toArray (I6 a (⟨d,g,l,j,c,some (a,b)⟩::e)) p:=by
 subst w;have s:=Kc v r;have u:G2 (some k) (some (o==b)) a b cx cf G i.toArray d g l j c e n m h p=RK cx cf G i.toArray (⟨d,g,l,j,c,some (a,b)⟩::e) n m h p:=by
  rw[Mf,q,Bo,q,dS,r,Bn]
 rw[u]
 conv=>lhs;rw[<-MF a (⟨d,g,l,j,c,some (a,b)⟩::e)]
 rw[Xf];unfold BG;apply propext;cases o
 ·conv=>lhs;rw[<-sN s]
  simp
 ·conv=>lhs;rw[<-sN s]
  simp
@[simp low] theorem aes (c:List Oper) (b:Tmp) (e:Bool) (a:Nat) (g:aa Tmp) (j:Op) (l:ab) (k:String) (d:af Edge) (i:List Oper) (n m:fH) (h:H) (o:iq)
 (r:(G>>>b)&&&1=0) (p:(M (c[a]?) λs=>s.dst)=some b) (q:Env.get G ⟨n,m⟩ b=some (.bool e)):
 G2 (some b) (some e) a true cx cf G c.toArray g j l k d i n m h o=
  BG e (pP cx cf G c.toArray (C6 a (⟨g,j,l,k,d,some (a,true)⟩::i)) n (tS m b (.bool true)) h) (pP cx cf G c.toArray (C6 a (⟨g,j,l,k,d,some (a,true)⟩::i)) n (tS m b (.bool false)) h) cx cf G c.toArray (I6 a (⟨g,j,l,k,d,some (a,true)⟩::i)) o:=
 PZ c b e a true g j l k d i n m h o e r p q J 
@[simp low] theorem aet (d:List Oper) (b:Tmp) (c:Bool) (a:Nat) (g:aa Tmp) (j:Op) (l:ab) (k:String) (e:af Edge) (i:List Oper) (n m:fH) (h:H) (o:iq)
 (r:(G>>>b)&&&1=0) (p:(M (d[a]?) λs=>s.dst)=some b) (q:Env.get G ⟨n,m⟩ b=some (.bool !c)):
 G2 (some b) (some c) a false cx cf G d.toArray g j l k e i n m h o=
  BG (!c) (pP cx cf G d.toArray (C6 a (⟨g,j,l,k,e,some (a,false)⟩::i)) n (tS m b (.bool true)) h) (pP cx cf G d.toArray (C6 a (⟨g,j,l,k,e,some (a,false)⟩::i)) n (tS m b (.bool false)) h) cx cf G d.toArray (I6 a (⟨g,j,l,k,e,some (a,false)⟩::i)) o:=
 PZ d b (!c) a false g j l k e i n m h o c r p q (by cases c<;>rfl)
def Xp{c:Bool}{g i:aa (Env×H)}{d:af Oper}{e:List Oper}{b:iq}(j:c=true->∃a h,g=some (a,h)/\RK cx cf G d e a.vars a.tmps h b)(k:c=false->∃a h,i=some (a,h)/\RK cx cf G d e a.vars a.tmps h b):BG c g i cx cf G d e b:=⟨j,k⟩
def Il{a d e:Bool}{h:H}{b c:aa kC}(g:a=true->b=some (.val (.bool d) h))(i:a=false->c=some (.val (.bool e) h)):lP (some (.bool a)) b c=some (.val (.bool (bif a then d else e)) h):=by
 cases a
 ·exact i rfl
 ·exact g rfl
@[simp]def acC (a b:aa kC):lP (some (.bool true)) a b=a:=id rfl
@[simp]def Z9 (b a:aa kC):lP (some (.bool false)) b a=a:=id rfl
@[simp low] theorem agu (a:Bool) (b c:T) (h:H):lP (some (.bool a)) (some (.val b h)) (some (.val c h))=some (.val (Ua a b c) h):=by cases a<;>rfl
@[simp]def agy (a b c:Bool) (h:H):lP (some (.bool a)) (some (.val (.bool b) h)) (some (.val (.bool c) h))=some (.val (.bool (bif a then b else c)) h):=Il (λ_=>rfl) (λ_=>rfl)
@[simp]def agx (a c d b:Bool) (h:H) (g:a=false->b=true):lP (some (.bool a)) (some (.val (.bool c) h)) (some (.val (gT b (.bool d)) h))=some (.val (.bool (bif a then c else d)) h):=Il (λ_=>rfl) (λe=>by rw[g e];rfl)
@[simp]def agw (a c d b:Bool) (h:H) (g:a=true->b=true):lP (some (.bool a)) (some (.val (gT b (.bool c)) h)) (some (.val (.bool d) h))=some (.val (.bool (bif a then c else d)) h):=Il (λe=>by rw[g e];rfl) (λ_=>rfl)
@[simp]theorem agv (a:Bool) (b:ak) (c d:Int) (h:H):lP (some (.bool a)) (some (.val (.int b c) h)) (some (.val (.int b d) h))=some (.val (.int b (bif a then c else d)) h):=by cases a<;>rfl
end
def jN(th:aj->aa kI):Op->Bool
 | .move _| .assign _| .pick .. | .load .. | .nilCheck _| .unOp .. | .binOp .. | .fieldAddr .. | .field .. | .indexAddr .. | .index .. | .extract .. | .slice .. =>true
 | .call b=>(match b.callee with
  | .builtin a=>(match a with| .len| .min| .max=>true|_=>false)
  | .value c=>(match c with| .func f=>(th f).isNone|_=>false)
  |_=>false)
 |_=>false
section
variable {th:aj->aa kI}
@[simp]def acz (a:ah):jN th (.move a)=true:=id rfl
@[simp]def XH (a:ah):jN th (.assign a)=true:=id rfl
@[simp]def acy (a b c:ah):jN th (.pick a b c)=true:=id rfl
@[simp]def acA (a:ab) (b:ah):jN th (.load a b)=true:=id rfl
@[simp]def TN (a:ah):jN th (.nilCheck a)=true:=id rfl
@[simp]def acx (a:UnOp) (b:ab) (c:ah):jN th (.unOp a b c)=true:=id rfl
@[simp]def Z5 (a:BinOp) (b:ab) (d e:ah) (c:ab):jN th (.binOp a b d e c)=true:=id rfl
@[simp]def QF (a:ab) (b:ah) (f:Nat):jN th (.fieldAddr a b f)=true:=id rfl
@[simp]def Z2 (a:ab) (b:ah) (f:Nat):jN th (.field a b f)=true:=id rfl
@[simp]def QE (a:ab) (b c:ah):jN th (.indexAddr a b c)=true:=id rfl
@[simp]def Z1 (a:ab) (b c:ah):jN th (.index a b c)=true:=id rfl
@[simp]def U4 (b:ah) (a:Nat):jN th (.extract b a)=true:=id rfl
@[simp]def Z0 (d:ab) (e:ah) (a b c:aa ah):jN th (.slice d e a b c)=true:=id rfl
@[simp]def Z3 (f:aj) (a:af ah) (b:af ab):jN th (.call ⟨.value (.func f),a,b⟩)=(th f).isNone:=id rfl
@[simp]def aeT (a:af ah) (b:af ab):jN th (.call ⟨.builtin .len,a,b⟩)=true:=id rfl
@[simp]def aeR (a:af ah) (b:af ab):jN th (.call ⟨.builtin .min,a,b⟩)=true:=id rfl
@[simp]def aeS (a:af ah) (b:af ab):jN th (.call ⟨.builtin .max,a,b⟩)=true:=id rfl
@[simp]def Z6 (a:ab):jN th (.alloc a)=false:=id rfl
@[simp]def aeU (a:ab) (b:ah):jN th (.box a b)=false:=id rfl
@[simp]def ZZ (a:ab) (b c:ah):jN th (.store a b c)=false:=id rfl
@[simp]def Z4 (b:ab) (a:af (Nat×ah)):jN th (.build b a)=false:=id rfl
@[simp]def Qd (c:ab) (a:Nat) (b:af (Nat×ah)):jN th (.buildSlice c a b)=false:=id rfl
end
def Kp(th:aj->aa kI)(h:H)(e:aa kC):Prop:=∀a,e=some a->(∀d b,a= .val d b->b=h)/\∀f c,a= .call f c->th f=none
section
variable {th:aj->aa kI}{h:H}
theorem Kp.val(b:aa T):Kp th h (val h b):=by
 intro c a;have⟨d,_,a⟩:=dB.1 a
 grind
def Kp.one(a:T):Kp th h (some (.val a h)):=Kp.val (some a)
theorem Kp.none:Kp th h none:=by intro a b;grind
theorem Kp.M{α:Type}{e:aa α}{f:α->aa kC}(d:∀a,Kp th h (f a)):Kp th h (M e f):=by
 intro c b;have⟨a,_,b⟩:=dB.1 b;exact d a c b
theorem Kp.fQ{b:Bool}{a:aa kC}(e:Kp th h a):Kp th h (fQ b a):=by
 intro c d;exact e c (dJ.1 d).2
def Vf{m:Op}(e:jN th m=true)(cx:Ctx)(G:Nat)(s:Env):Kp th h (iT m cx G s h):=by
 cases m<;>first|(simp[jN]at e;done)|skip
 case move x=>exact Kp.val _
 case assign x=>exact Kp.val _
 case pick k n j=>
  rw[Q2];unfold lP;refine Kp.M λa=>?_;cases a<;>first|exact Kp.none|grind [Kp.val]
 case load b n=>simp[Kp.val,Kp.M]
 case nilCheck x=>exact Kp.M λa=>by cases a<;>first|exact Kp.none|exact Kp.one _
 case unOp i b x=>simp[Kp.val,Kp.M]
 case binOp i b x p F=>
  cases i<;>first
   |exact Kp.M λ_=>Kp.M λ_=>Kp.val _
   |exact Kp.M λ_=>Kp.M λ_=>Kp.M λ_=>Kp.fQ (Kp.M λ_=>Kp.val _)
 case fieldAddr b x f=>
  exact Kp.M λt=>Kp.M λa=>by
   cases a<;>first|exact Kp.none|exact Kp.M λ_=>Kp.one _
 case field b x f=>
  exact Kp.M λt=>Kp.M λ_=>Kp.M λa=>by
   cases a<;>first|exact Kp.none|simp[Kp.val,Kp.M]
 case indexAddr b x g=>
  exact Kp.M λd=>Kp.M λa=>Kp.M λ_=>Kp.M λg=>by
   cases d.u<;>first|exact Kp.none|(refine Kp.M λv=>?_;first
    |(cases a<;>first|exact Kp.none|exact Kp.M λ_=>Kp.fQ (Kp.one _)|exact Kp.fQ (Kp.M λ_=>Kp.fQ (Kp.fQ (Kp.M λ_=>Kp.one _))))
    |(refine Kp.fQ ?_;cases a<;>first|exact Kp.none|exact Kp.M λ_=>Kp.one _|(refine Kp.M λq=>?_;cases Nat.beq q.sz v.size<;>first|exact Kp.M λ_=>Kp.one _|simp[Kp.one,Kp.M,Kp.fQ])))
 case index b x g=>
  exact Kp.M λd=>Kp.M λa=>Kp.M λ_=>Kp.M λg=>by
   cases d.u<;>first|exact Kp.none|(cases a<;>first|exact Kp.none|exact Kp.M λ_=>Kp.val _|grind [Kp.val,Kp.M,Kp.fQ])
 case extract x g=>exact Kp.M λa=>by cases a<;>first|exact Kp.none|exact Kp.val _
 case slice b x n j k=>exact Kp.M λ_=>Kp.M λ_=>Kp.fQ (Kp.M λ_=>Kp.M λ_=>Kp.M λ_=>Kp.fQ (Kp.val _))
 rename_i k;obtain⟨r,w,E⟩:=k;cases r with
 |builtin j=>
  refine Kp.M λl=>?_;cases j<;>first
   |(simp[jN]at e;done)
   |(match l with
    | []=>exact Kp.none
    | [x]=>first|exact Kp.none|(refine Kp.M λb=>Kp.M λd=>?_;cases d.u<;>first|exact Kp.none|exact Kp.val _|(cases x<;>first|exact Kp.none|exact Kp.val _))
    | [x,p]=>first|exact Kp.val _|exact Kp.none
    |x::p::I::l=>exact Kp.none)
 |value i=>
  cases i with
  |func f=>
   have z:(th f).isNone=true:=e;refine Kp.M λl=>?_;intro y c;obtain⟨a,o,c⟩:=dB.1 c;simp only[Le,ar]at o;subst o;obtain⟨C,_,c⟩:=dB.1 c;simp only[ar]at c;subst c;simp_all
  |_=>simp[jN]at e
 |_=>grind [jN]
end
section
variable {P:ai}{cx:Ctx}{tb:fw}{G:Nat}
def ON{j:Op}(o:jN tb.h j=true){e:Env}{h:H}{k:T}{c:H}(a:fin (pK P cx tb) h (iT j cx G e h)=some (k,c)):c=h:=by
 have⟨d,m,a⟩:=dB.1 a;have⟨r,p⟩:=Vf o cx G e d m;rcases d with⟨t,q⟩|⟨f,b⟩
 ·simp only[ar,aB]at a;rw[<-a.2];grind
 ·have n:=p _ _ rfl;have a:pK P cx tb f b h=some (k,c):=a;have g:hl P cx tb f b h=none:=by unfold hl;rw[n]
  rw[Pd]at a;cases i:PE h b with
  |none=>rw[i,Pb,g]at a;grind
  |some l=>
   rw[i,Pa,g]at a;cases hr:rl P cx tb f l with
   |none=>rw[hr]at a;simp at a
   |some s=>
    rw[hr,Pc]at a
    grind
def C1(j:af Oper)(k:List (Nat×Nat))(Q:fH->H->Prop):∀(g:List Oper) (e:Nat) (m:List (Nat×Nat)) (d:List (Nat×H×H)) (b a:fH) (h:H),(g.all λo=>jN tb.h o.op)=true->(∀l∈d,l.2.1=l.2.2)->
 Jp cx (pK P cx tb) G j k g e m d b a h Q=WR cx (pK P cx tb) G j g b a h Q
 | [],e,m,d,b,a,h,_,_=>by rw[KC,PT]
 |o::g,e,m,d,b,a,h,n,q=>by
  simp only[cq,az]at n;rw[HC,Fy];unfold xR;cases ka j G ⟨b,a⟩ o.guard with
  |none=>apply propext;constructor<;>(first|exact False.elim|(rintro⟨i,c,K,_⟩;simp_all))
  |some E=>
   rw[dS];cases E with
   |false=>
    rw[HD,yV];congr 1;funext b a;exact C1 j k Q g _ m d b a h n.2 q
   |true=>
    rw[KD];apply propext;have L:∀i c,fin (pK P cx tb) h (iT o.op cx G ⟨b,a⟩ h)=some (i,c)->
     ((DK cx G k e m d o.op ⟨b,a⟩ h c λm d=>WD G o.dst i b a λb a=>Jp cx (pK P cx tb) G j k g (e+1) m d b a c Q)↔WD G o.dst i b a λb a=>WR cx (pK P cx tb) G j g b a c Q):=by
     intro i c y;have z:=ON n.1 y;subst z;have F:∀s,ml k e s d:=λs l n _=>by rw[q l n];simp
     have I:∀u v i,o.op≠ .store u v i:=λu v i C=>by have:=n.1;rw[C]at this;simp_all
     have t:∀r p,(∀l∈p,l.2.1=l.2.2)->((WD G o.dst i b a λb a=>Jp cx (pK P cx tb) G j k g (e+1) r p b a c Q)↔WD G o.dst i b a λb a=>WR cx (pK P cx tb) G j g b a c Q):=by
      intro r p w;rw[show(λb a=>Jp cx (pK P cx tb) G j k g (e+1) r p b a c Q)=λb a=>WR cx (pK P cx tb) G j g b a c Q from by funext b a;exact C1 j k Q g _ r p b a c n.2 w]
     unfold DK;split
     ·rw[I1];show(True/\_)/\(WD G o.dst i b a λb a=>Jp cx (pK P cx tb) G j k g (e+1) m (if kW k e=true then(e,c,c)::d else d) b a c Q)↔_;have x:∀l∈(if kW k e=true then(e,c,c)::d else d),l.2.1=l.2.2:=by
       grind
      rw[t _ _ x]
      grind
     ·cases fP cx G ⟨b,a⟩ c o.op with
      |none=>exact t _ _ q
      |some s=>simp only;rw[t _ _ q];grind
    show(∃i c,_/\_)↔∃i c,_/\_
    grind
@[simp high] theorem aek (a:List Oper) (d:List (Nat×Nat)) (b:fH) (h:H) (c:iq) (e:(a.all λg=>jN tb.h g.op)=true):QK cx (pK P cx tb) G a (some d) b h c=RK cx (pK P cx tb) G a.toArray a b .nil h c:=
 C1 a.toArray d (λb h=>c.n ⟨b,.nil⟩ h) a 0 [] [] b .nil h e (λj i=>by grind)
end
def D7(b:T):Prop:=∃a,b= .int .i64 a
@[simp]def acO (a:Int):D7 (.int .i64 a)=True:=by simp[D7]
section
variable {P:ai}{cx:Ctx}{f:aj}{α:Type}{A:α->List T}{pre:α->Prop}{Q:α->T->Prop}
noncomputable abbrev mW.ji(_:mW P cx f A pre Q):ge:=wR P cx f A pre Q
def mW.use(c:mW P cx f A pre Q)(a:α)(b:pre a):∃d,Q a d/\∀{tb:fw},tb.p f=some (wR P cx f A pre Q)->rl P cx tb f (A a)=some d:=⟨_,c.2 a b,λht=>gG ht c.1 a b⟩
end
section
variable {P:ai}{cx:Ctx}{f:aj}{α γ:Type}{A:α->List T}{pre:α->Prop}
def mW.fnI(d:mW P cx f A pre (λ_=>D7))(b:γ->α)(c:∀a,pre (b a)):∃e:γ->Int,∀{tb:fw},tb.p f=some (wR P cx f A pre (λ_=>D7))->∀a,rl P cx tb f (A (b a))=some (.int .i64 (e a)):=by
 refine⟨λa=>(d.2 (b a) (c a)).choose,λht a=>?_⟩;exact(gG ht d.1 (b a) (c a)).trans (bG some (d.2 (b a) (c a)).choose_spec)
end
@[simp]def agX (a:iI):gH 1 (hE.cons a)=True:=by simp;exact⟨J,J,J⟩
@[simp]def agW (a b:iI):gH 2 ((hE.cons a).cons b)=True:=by simp;exact⟨J,J,J⟩
@[simp]def agV (b c d a:iI):gH 4 ((((hE.cons b).cons c).cons d).cons a)=True:=by simp;exact⟨J,J,J⟩
def nG(a:ak)(b c:Int):binop .add (.int a b) (.int a c)=some (.int a (a.wrap (b+c))):=by
 show fQ (C7 a a) (pj a (b+c))=_;simp
def tQ(a:ak)(b c:Int):binop .sub (.int a b) (.int a c)=some (.int a (a.wrap (b-c))):=by
 show fQ (C7 a a) (pj a (b-c))=_;simp
def dA(a:ak)(b c:Int):binop .mul (.int a b) (.int a c)=some (.int a (a.wrap (b*c))):=by
 show fQ (C7 a a) (pj a (b*c))=_;simp
def GN(c:T):Prop:=∃a b,c= .tuple [.int .i64 a,.int .i64 b]
@[simp]def acP (a b:Int):GN (.tuple [.int .i64 a,.int .i64 b])=True:=by simp[GN]
