/- DFun -/
import Derived.Test.YtalknpnbaceflaaGreatDoorA7
import Derived.Test.YtalknpnbaceflaaGreatDoorProg
set_option linter.all false
set_option maxRecDepth 100000
set_option maxHeartbeats 0
namespace Go.Proofs.YtalknpnbaceflaaGreatDoor
noncomputable section
open Go Go.TI Tryz
def jv:prog.follows .mixedOrders=true:=dY
def ZS:j7.RY λb a=>ZT prog b a.cmp=some a:=by
 unfold j7;repeat' first|exact .nil|refine .eY ?_ dY ?_
def jl:jT prog cx:=⟨λb c a=>⟨_,ZS.find a⟩⟩
end
end Go.Proofs.YtalknpnbaceflaaGreatDoor
namespace Go.TI
noncomputable section
section
def hr(a:H):H:=⟨a.size,a.size,a.ir⟩
@[simp]def pZ (a:H):(hr a).size=a.size:=id rfl
@[simp]def iU (a:H) (b:Nat):(hr a).get b=a.get b:=H.ux a a.size b
@[simp]def afd (a:H):Hp (hr a)=Hp a:=id rfl
def P9(f:Bool)(c:H)(g:List T)(e:H)(d:T->H->Prop):Prop:=∃b a,FV f c.size c.low (kI g) e=some (b,a)/\(d b a\/d (cn b) a)
section
variable {P:aj}{cx:Ctx}{cf:jQ}{D:Nat}
def ac3(O:P.follows .mixedOrders=true)(j7:jT P cx){m:ak}{a:Func}{r:DL}(h:G4 P cx m a D r)(I:pL P cx cf)(i:Bool){b:List T}{c:H}{u:T->H->Prop}(Q:b.length<=a.ntmps)(j:Nat)
 (Z:∀z,oN z 0 b->W (kq cx cf j D r (a.body.getD .skip) ⟨z,.nil⟩ (hr c)) (B1 cx D a.results.toList λt f=>P9 i c t f u)):∃d f,u d f/\sg P cx ⟨m,b,c,d,f⟩:=by
 have⟨y,V,_,L⟩:=oG D a.ntmps 0 b Q;have⟨x,J,K,e,ab,t,S,d,g,hl,hp⟩:=GT (Z y L);have e:=tv _ h.dr _ _ _ e;have⟨E,s⟩:=Co h.ok;rw[s]at e;have M:vV cx cf j a D i b c=some (d,g):=by
  unfold vV;rw[s];obtain⟨w,aE,A⟩:=c;simp only;rw[V,fw];have e:ll cx cf j D E ⟨y,.nil⟩ ⟨w,w,A⟩=some (x,J,K):=e;rw[e,fw,nC];have U:=qH S;rcases ab with rfl|rfl<;>(simp only;rw[U,fw];exact hl)
 have R:Aq ⟨a,D,i,none⟩=true:=h.ok;have N:sg P cx ⟨m,b,c,d,g⟩:=λk p q l o n=>rM (F:=⟨a,D,i,none⟩) O j7 h.at_ R cf I j b c d g M k p q l o n;rcases hp with hp|hp
 ·grind
 ·exact⟨cn d,g,hp,λk p q l o n=>(N k p q l o n).mono λv aN ⟨⟨aA,ae,al,an,ap⟩,av⟩=>⟨⟨aA,ae.cn,al,an,ap⟩,av⟩⟩
def Ms{tb:io}{c:mN}(l:P.follows .mixedOrders=true)(j7:jT P cx){f:ak}{d:Func}{e:DL}(o:G4 P cx f d D e)(i:Bool)(j:List T->H->Nat)(m:∀a b,c.pre a b->a.length<=d.ntmps)
 (n:∀a b,c.pre a b->∀k,oN k 0 a->W (kq cx (tz P cx tb) (j a b) D e (d.body.getD .skip) ⟨k,.nil⟩ (hr b)) (B1 cx D d.results.toList λp g=>P9 i b p g (c.post a b))):c.Ok P cx f:=
 λa b h=>by
  have⟨s,g,q,r⟩:=ac3 l j7 o (GC P cx tb) i (m a b h) (j a b) (n a b h)
  grind
end
def ZP{P:aj}{cx:Ctx}{cf:jQ}{D:Nat}(O:P.follows .mixedOrders=true)(j7:jT P cx){p:ak}{c:Func}{y:DL}(j:G4 P cx p c D y)(J:pL P cx cf){b:List T}{m:T->Prop}(hl:nK b=true)(A:b.length<=c.ntmps)(k:Nat)
 (S:∀f,oN f 0 b->W (kq cx cf k D y (c.body.getD .skip) ⟨f,.nil⟩ hE) (B1 cx D c.results.toList λH g=>∃a,m a/\Oq g H a)):∃a,m a/\mM P cx p b a:=by
 have an:∃a,m a/\∀f,oN f 0 b->TI.M f 0=TI.M f 0->∃d,cn d=a/\vV cx cf k c D false b hE=some (d,hE):=by
  have⟨l,E,_,s⟩:=oG D c.ntmps 0 b A;have⟨x,K,g,e,U,H,hr,a,r,Q,i⟩:=GT (S l s);have e:=tv _ j.dr _ _ _ e;have⟨I,h⟩:=Co j.ok;rw[h]at e;unfold Rt at i;have⟨d,i,z⟩:=eg.1 i;simp only[aw]at z;refine⟨a,r,λ_ _ _=>⟨d,z,?_⟩⟩;unfold vV;rw[h];simp only;rw[E,fw];have e:ll cx cf k D I ⟨l,.nil⟩ ⟨0,0,[]⟩=some (x,K,g):=e;rw[e,fw,nC];have R:=qH hr;rcases U with rfl|rfl<;>(simp only;rw[R,fw];exact Lh Q i)
 obtain⟨a,r,N⟩:=an;have⟨l,E,_,s⟩:=oG D c.ntmps 0 b A;obtain⟨d,rfl,h⟩:=N l s rfl;refine⟨cn d,r,?_⟩;have L:mM P cx p b d:=BH (mD _ hl) λn u w o t q=>
  rM (F:=⟨c,D,false,none⟩) O j7 j.at_ j.ok cf J k b hE d hE h n u w o t q
 intro n u w o g t q;refine(L n u w o g t q).mono λv av ⟨⟨ap,V,Z,ab,ae⟩,al⟩=>?_;exact⟨⟨ap,V.cn,Z,ab,ae⟩,al⟩
def J7(b:T):Prop:=∃a,b= .ez a
def yK(a:Nat)(d:T)(b:H):py a d b=some (d,⟨b.size,if b.low<a then b.low else a,b.ir⟩):=by
 obtain⟨f,c,e⟩:=b;show @Bool.rec (λ_=>aa (T×H)) (some (d,⟨f,a,e⟩)) (some (d,⟨f,c,e⟩)) (Nat.blt c a)=_;by_cases hl:c<a
 ·rw[show Nat.blt c a=true by rw[aK];exact hl,au hl]
 ·rw[show Nat.blt c a=false by rw[dH];intro g;rw[aK]at g;omega,Z hl]
def LA{h:H}(f:Hp h){a d:Nat}(e:a<=h.size){b:Nat}(c:b<a):(⟨a,d,h.ir.drop (h.size-a)⟩:H).get b=h.get b:=by
 rw[H.get_eq,H.get_eq];simp only;rw[au c,au B,bU]
 grind
def tj(a b:H)(j:List T){r:T}{k:T->H->Prop}(t:Hp a)(c:Fr a.size (hr a) b)(f:(J (jX b a.size (kI j)) λq=>some (cn q))=some r)(n:k r a):P9 false a j b k:=by
 have⟨p,f,i⟩:=eg.1 f;simp only[aw]at i;unfold P9 FV;simp only[f];have u:Hp b:=c.hp (by simp_all);have m:a.size<=b.low:=c.low (ax _);have s:a.size<=b.size:=c.size;have e:b.ir.drop (b.size-a.size)=a.ir:=by
  apply cW;intro d;rw[bU];rcases aT d a.size with hi|hi
  ·have h:=c.get (a.size-1-d) B;rw[iU,H.get_eq,H.get_eq,au B,au B]at h;rw[show b.size-a.size+d=b.size-1-(a.size-1-d)by omega,h]
   grind
  grind [Hp,bV]
 obtain⟨l,o,g⟩:=b;unfold wM;simp only;rw[nO,au (by grind [Hp]),fw,show Nat.ble a.size o=true from cr m];refine⟨p,_,rfl,.inr ?_⟩;rw[i];have:(⟨a.size,a.low,List.drop (Nat.sub l a.size) g⟩:H)=a:=by
  have e:List.drop (Nat.sub l a.size) g=a.ir:=e;rw[e]
 rw[this];exact n
end
section
noncomputable section
variable {cx:Ctx}{D:Nat}{e:Env}{h:H}
end
end
section
structure iQ(n:Nat)(h:H):Prop where
 hp:Hp h
 low:h.low<=h.size
 sz:n<=h.size
theorem iQ.cons{c:Nat}{b:H}(a:iQ c b)(d:jK):iQ c (b.cons d):=⟨by simpa using a.hp,by simp only[Uo];have:=a.low;grind [H.cons],by have:=a.sz;grind [H.cons]⟩
def iQ.ne{c:Nat}{a:H}(d:iQ c a){b:Nat}(e:b<c):(b=a.size)=False:=by have:=d.sz;grind
def iQ.ZO{d c:Nat}{b:H}(a:iQ d b)(e:c<=d):iQ c b:=⟨a.hp,a.low,aU e a.sz⟩
def KC(c:H)(b:Nat)(g:jK):(fJ c b g).low<=c.low:=by
 unfold fJ;cases a:c.put b g with
 |none=>simp
 |some h=>
  obtain⟨e,d,j⟩:=c;have a:(iS (Nat.blt b e) (J (mw j (Nat.sub (Nat.sub e 1) b) g) λf=> @Bool.rec (λ_=>aa H) (some ⟨e,d,f⟩) (some ⟨e,b,f⟩) (Nat.blt b d)))=some h:=a;have⟨_,a⟩:=fj.1 a;have⟨f,_,a⟩:=eg.1 a;show h.low<=d;cases i:Nat.blt b d<;>rw[i]at a<;>simp only[aw]at a<;>subst a
  ·simp
  ·rw[aK]at i;grind
theorem iQ.put{n:Nat}{a:H}(b:iQ n a)(d:Nat)(e:jK):iQ n (fJ a d e):=⟨by simpa using b.hp,by rw[iy];exact aU (KC a d e) b.low,by rw[iy];exact b.sz⟩
structure tI(sz:Nat)(h h':H):Prop where
 get:∀c x,h.get c=some x->x.sz≠sz->h'.get c=some x
 ok:∀n,iQ n h->iQ n h'
 size:h.size<=h'.size
def tI.refl(d:Nat)(a:H):tI d a a:=⟨λ_ _ b _=>b,λ_ c=>c,ax _⟩
def tI.trans{c:Nat}{e f g:H}(a:tI c e f)(b:tI c f g):tI c e g:=⟨λd j k h=>b.get d j (a.get d j k h) h,λi l=>b.ok i (a.ok i l),aU a.size b.size⟩
theorem tI.cons(e:Nat)(a:H)(c:jK):tI e a (a.cons c):=⟨λf h b _=>by have:=H.gh b;rw[fk,Z B];exact b,λg d=>d.cons c,G⟩
theorem tI.put{d:Nat}{b:H}{a:Nat}{x:jK}(f:b.get a=some x)(i:x.sz=d)(e:jK):tI d b (fJ b a e):=⟨λc k h j=>by
 rw[eG f]
 grind,λn g=>g.put a e,G⟩
def u7.afO{cx:Ctx}{a:H}{d:T}{b:Nat}{e:List T}(r:u7 a 0 d b e){n o j:af}{t v c:Ty}(A:cx.ty n=some t)(D:t.u= .slice j)(E:cx.ty j=some c)(F:cx.ty o=some v)(I:v.u= .slice j)(s:c.size=b)(q:1<=c.bytes)
 {x:T} {xs:List T} (L:a.j1 x=some xs) (l:∀y∈xs,y.cells.length=b) (K:(e.length+xs.length)*c.bytes<=70368744177664):
 ∃w k,jx cx a n o d x=some (.val w k)/\u7 k 0 w b (e++xs)/\tI b a k:=by
 have J:jx cx a n o d x=kr (a.append c.size c.bytes d xs):=by
  unfold jx ql nD;rw[A,fw,F,fw];simp only[D,E,I,L,fw];rw[s,mc l,jf]
 rw[J,s];cases xs with
 |nil=>
  refine⟨d,a,?_,by grind,tI.refl _ _⟩;show kr (iS (qQ d) (some (d,a)))=_;rcases r with⟨rfl,_⟩|⟨h,i,p,z,_,rfl,_⟩<;>rfl
 |cons f g=>
  rcases r with⟨rfl,rfl⟩|⟨h,i,p,z,M,rfl,m⟩
  ·refine⟨.arr a.size 0 0 (f::g).length false,a.cons ⟨b,0,0,false,false,f::g⟩,?_,.inr ⟨a.size,0,0,false,ay _,rfl,G⟩,tI.cons _ _ _⟩;show kr (a.jH b c.bytes [] (f::g))=_;rw[qW l q (by grind)];rfl
  ·refine⟨.arr h (i+1) 0 (e++f::g).length false,fJ a h ⟨b,i+1,p+1,false,false,e++f::g⟩,?_,.inr ⟨h,i+1,p+1,false,M,rfl,by rw[eG m,au rfl]⟩,tI.put m rfl _⟩;show kr (a.oz b c.bytes h i e.length (f::g))=_;rw[yZ m l q K];rfl
def u7.ZB{cx:Ctx}{f:H}{o:T}{b:Nat}{i:Type}{a:i->T}{e:List i}(s:u7 f 0 o b (e.map a)){g k:af}{n d:Ty}(l:cx.ty g=some n)(m:n.u= .slice k)(p:cx.ty k=some d)(t:d.size=b)(q:1<=d.bytes)
 (r:∀x,NZ (a x)=b) (xs:List i) (v:(e.length+xs.length)*d.bytes<=70368744177664):
 ∃h c,jx cx f g g o (sl (xs.map a))=some (.val h c)/\u7 c 0 h b ((e++xs).map a)/\tI b f c:=by
 have⟨h,c,w,y,z⟩:=s.afO (x:=sl (xs.map a)) (xs:=xs.map a) l m p l m t q G (by simpa using λj _=>show(a j).cells.length=b from r j) (by grind)
 grind
def u7.Og{cx:Ctx}{c:H}{n:T}{a:Nat}{i:Type}{b:i->T}{g:List i}(r:u7 c 0 n a (g.map b)){h j:af}{m e:Ty}(k:cx.ty h=some m)(l:m.u= .slice j)(o:cx.ty j=some e)(s:e.size=a)(p:1<=e.bytes)
 (q:∀x,NZ (b x)=a) (x:i) (y:(g.length+1)*e.bytes<=70368744177664):
 ∃f d,jx cx (c.cons ⟨a,0,0,true,false,[b x]⟩) h h n (.arr c.size 0 0 1 false)=some (.val f d)/\u7 d 0 f a ((g++[x]).map b)/\tI a c d:=by
 have⟨f,d,t,v,w⟩:=(r.cons ⟨a,0,0,true,false,[b x]⟩).afO (x:= .arr c.size 0 0 1 false) (xs:=[b x]) k l o k l s p (by rw[iR];simp) (by simpa using show(b x).cells.length=a from q x) (by grind);exact⟨f,d,t,by rw[List.map_append];exact v,(tI.cons _ _ _).trans w⟩
def vh{i:Env->H->Out}(b:Nat)(e:Nat->iM->H->Prop){h:jE}
 (n:∀k c a,k<=b->e k c a->W (i ⟨c,.nil⟩ a) (AR (λd a=>d.tmps= .nil/\∃f,k<f/\f<=b/\e f d.vars a) h)) {g:Nat} (o:b<g) {k:Nat} (l:k<=b) {c:iM} {a:H} (j:e k c a):W (qt i g ⟨c,.nil⟩ a) h:=by
 refine VB (σ:=Nat) (I:=λk d a=>k<=b/\d.tmps= .nil/\e k d.vars a) (m:=λk=>b-k) ?_ g k _ _ B ⟨l,rfl,j⟩;rintro k ⟨c,p⟩ a ⟨l,ht,j⟩
 grind
section
variable {cx:Ctx}
@[simp]def Xu (c:Nat) (a b:List T):eqFields cx [] c a b=some true:=id rfl
def NN{a:Ty}{d:List (Nat×af)}(e:a.u= .struct d)(f:a.cmp=true)(b c:List T):Ml cx a (.eZ b) (.eZ c)=eqFields cx d 0 b c:=by
 unfold Ml;rw[e];simp_all
@[simp]def QJ (a:ao):(U.int a).plain=true:=id rfl
@[simp]def MZ:U.ez.plain=true:=id rfl
end
end
section
section
variable {P:aj}{cx:Ctx}
def GE{f:ak}{u:List T}{b c:H}{K L:T}(S:sg P cx ⟨f,u,b,K,c⟩)(al:Hp c)(D:b.size<=c.size)
 (U:∀a h,a<b.size->c.get a=some h->c.get a=b.get a\/∀o∈iq h.gW,sa b.size o) (V:jX c b.size K=some L):
 sg P cx ⟨f,u,b,cn L,⟨b.size,c.low,c.ir.drop (c.size-b.size)⟩⟩:=by
 intro N w s O r j;refine(S N w s O r j).mono λo aA ⟨⟨t,an,I,g,l⟩,q⟩=>?_;have x:∀a e,s a=some e->a<b.size:=λa e d=>r.gh d;have l:Bb s t b.size c.size:=l;have hl:∀a e h,a<b.size->t a=some e->c.get a=some h->∀o∈iq h.gW,sa b.size o:=by
  intro a e h d j E;rcases U a h d E with he|he
  ·rcases l.2.1 a (by rw[j];simp)with k|k
   ·have⟨M,R⟩:=Option.ne_none_iff_exists'.1 k;have⟨aE,p,ae⟩:=r.box a M R;rw[<-he,E]at p;simp only[aw]at p;subst p;exact ae.low x
   ·omega
  omega
 have v:=St.cut (low:=c.low) I D hl;have z:∀a,a<b.size->(⟨b.size,c.low,c.ir.drop (c.size-b.size)⟩:H).get a=c.get a:=λa d=>LA al D d;refine⟨⟨ox b.size t,(xX I an V).cn,v,⟨⟨g.ext.size,λi W ab=>?_,λa e d=>?_,g.ext.rf,g.ext.kept⟩,g.os,g.tape,g.output⟩,ax _,λa d=>?_,λa J m=>absurd J (by show¬b.size<=a;have m:a<b.size:=m;omega)⟩,?_⟩
 ·have⟨ap,av⟩:=g.ext.pN i W ab
  grind [zv]
 ·rw[wX (x a e d)];exact g.ext.mu a e d
 ·left;have⟨e,j⟩:=Option.ne_none_iff_exists'.1 d;have⟨J,m⟩:=ls j;rcases l.2.1 a (by rw[m];simp)with k|k
  ·exact k
  ·omega
 ·refine⟨v.wf,ax _,q.low,λa d Z=>?_,λa y F=>?_⟩
  ·rw[z a d];exact q.mE a d Z
  ·rw[z a (H.gh F)];exact q.ver a y F
def NF{c d:H}(e:∀a,d.get a=c.get a)(n:Nat):∀b,freeze d n b=freeze c n b:=by
 grind [freeze,iH,J,takeN,kZ,Nat.beq,iS,Nat.ble]
def wn{a b:H}(i:∀e,b.get e=a.get e)(n:Nat)(c:T):jX b n c=jX a n c:=by
 have g:jA b n=jA a n:=by funext d;cases d<;>(unfold jA;simp only[NF i])
 have h:lM b n=lM a n:=by funext d;cases d<;>(unfold lM;simp only[g])
 cases c<;>(unfold jX;simp only[h])
end
def FT(e:H)(c:Nat->Prop):Nat->T->T->Prop
 |0,_,_=>False
 |d+1,a,g=>(kT a=true/\(∀b,a≠ .eZ b)/\g=cn a)\/
  (∃h l o m f j k,a= .arr h l o m f/\c h/\e.j1 a=some j/\jw (FT e c d) j k/\g=sl k)\/
  (∃b i,a= .eZ b/\jw (FT e c d) b i/\g= .eZ i)
def jw.imp_mem{α h:Type}{d R':α->h->Prop}{c:List α}{g:List h}(i:jw d c g)(e:∀a∈c,∀b,d a b->R' a b):jw R' c g:=by
 induction i with
 |nil=>exact .nil
 |cons a _ j=>exact .cons (e _ G _ a) (j λk l b=>e k (by grind) b)
def tc{α d:Type}{f:α->aa d}{b:List α}{c:List d}(g:jw (λa e=>f a=some e) b c):iH f b=some c:=by
 induction g with
 |nil=>rfl
 |cons a _ h=>rw[kx,a,h];rfl
def FT.Ae{h:H}{Vq:Nat->Prop}:∀{d:Nat} {v t:T},FT h Vq d v t->TI.Ae h d v=some t:=by
 intro d;induction d with
 |zero=>intro v t c;exact c.elim
 |succ d g=>
  intro v t c;rcases c with⟨j,k,rfl⟩|⟨e,p,u,s,f,q,r,rfl,_,l,a,rfl⟩|⟨m,o,rfl,a,rfl⟩
  ·unfold TI.Ae;rw[vQ h 0 d v j k];rfl
  ·rw[AW,l,fw,tc (a.imp λi e b=>g b)];rfl
  ·rw[Xm,tc (a.imp λi e b=>g b)];rfl
def Ln{c d:H}{a b g e:Nat}{f:Bool}(h:d.get a=c.get a):d.j1 (.arr a b g e f)=c.j1 (.arr a b g e f):=by
 rw[iR,iR,h]
def FT.mono{k h':H}{i j:Nat->Prop}(m:∀a,i a->j a/\h'.get a=k.get a):∀{b:Nat} {e d:T},FT k i b e d->FT h' j b e d:=by
 intro b;induction b with
 |zero=>intro e d c;exact c.elim
 |succ b o=>
  intro e d c;rcases c with c|⟨a,s,x,w,f,t,u,rfl,l,v,g,rfl⟩|⟨q,r,rfl,g,rfl⟩
  ·exact .inl c
  ·exact .inr (.inl ⟨a,s,x,w,f,t,u,rfl,(m a l).1,by rw[Ln (m a l).2];exact v,g.imp λp a h=>o h,rfl⟩)
  ·exact .inr (.inr ⟨q,r,rfl,g.imp λp a h=>o h,rfl⟩)
def FT.deep{k:H}{j:Nat->Prop}:∀{b a:Nat} {e d:T},b<=a->FT k j b e d->FT k j a e d:=by
 intro b;induction b with
 |zero=>intro a e d _ c;exact c.elim
 |succ b l=>
  intro a e d y c;obtain⟨a,rfl⟩:∃q,a=q+1:=⟨a-1,B⟩;rcases c with c|⟨g,r,x,w,f,s,t,rfl,u,v,h,rfl⟩|⟨o,p,rfl,h,rfl⟩
  ·exact .inl c
  ·exact .inr (.inl ⟨g,r,x,w,f,s,t,rfl,u,v,h.imp λm g i=>l B i,rfl⟩)
  ·exact .inr (.inr ⟨o,p,rfl,h.imp λm g i=>l B i,rfl⟩)
def FT.fz{h:H}{Vq:Nat->Prop}{v t:T}(l:FT h Vq 12 v t):TI.fz h v=some t:=by
 rcases l with⟨i,e,rfl⟩|⟨g,o,s,r,f,p,q,rfl,e,j,a,rfl⟩|⟨b,c,rfl,a,rfl⟩
 ·show(J (jA h 0 v) λv=>some (cn v))=_;rw[tQ h i e];rfl
 ·rw[xE,j,fw,tc (a.imp λm g k=>k.Ae)];rfl
 ·have:=FT.Ae (h:=h) (Vq:=Vq) (d:=12) (v:= .eZ b) (t:= .eZ c) (.inr (.inr ⟨b,c,rfl,a,rfl⟩));exact this
@[simp]def iO (d:H) (b:Nat->Prop) (c:Nat) (a:ao) (n:Int):FT d b (c+1) (.int a n) (.int a n):= .inl ⟨G,G,G⟩
@[simp]def lz (d:H) (b:Nat->Prop) (c:Nat) (a:List Nat):FT d b (c+1) (.str a) (.str a):= .inl ⟨G,G,G⟩
@[simp]def Qb (d:H) (b:Nat->Prop) (c:Nat) (a:Bool):FT d b (c+1) (.ez a) (.ez a):= .inl ⟨G,G,G⟩
theorem rn(g:H)(d:Nat->Prop)(e:Nat){a:List T}(c:∀b∈a,cn b=b):FT g d (e+1) (sl a) (sl a):=by
 refine .inl ⟨G,by cases a<;>simp[sl],?_⟩;rw[PB];congr 1;induction a with
 |nil=>rfl
 |cons b k h=>rw[aO,c b G,<-h λi j=>c i (by grind)]
def j9(c:H)(a:Nat->Prop)(b:Nat)(f:Bool):FT c a (b+1) (.V [] f) (sl []):= .inl ⟨G,G,by rw[pB];rfl⟩
section
variable {cx:Ctx}{cf:jQ}{D n:Nat}{dl:DL}
def ig(b e:Code)(c:Env)(d:H)(a:jE):CK (some (.ez true)) cx cf n D dl b e c d a=W (kq cx cf n D dl b c d) a:=rfl
def gJ(e b:Code)(c:Env)(d:H)(a:jE):CK (some (.ez false)) cx cf n D dl e b c d a=W (kq cx cf n D dl b c d) a:=rfl
def fN{d:Bool}{e g:Code}{b:Env}{c:H}{a:jE}(h:d=true->W (kq cx cf n D dl e b c) a)(i:d=false->W (kq cx cf n D dl g b c) a):CK (some (.ez d)) cx cf n D dl e g b c a:=by
 simp_all
end
def wR(P:aj)(cx:Ctx)(f:ak){α:Type}(A:α->List T)(pre:α->Prop)(Q:α->T->Prop):iK:=
 ⟨α,A,pre,λa=>Classical.epsilon λc=>(∀b,A b=A a->Q b c)/\mM P cx f (A a) c,λa b d=>by grind⟩
section
variable {P:aj}{cx:Ctx}{f:ak}{α:Type}{A:α->List T}{pre:α->Prop}{Q:α->T->Prop}
theorem Ow(e:∀a b,A a=A b->a=b){a:α}(g:∃c,Q a c/\mM P cx f (A a) c):Q a ((wR P cx f A pre Q).R a)/\mM P cx f (A a) ((wR P cx f A pre Q).R a):=by
 have d:∃c,(∀b,A b=A a->Q b c)/\mM P cx f (A a) c:=by
  grind
 have:=Classical.epsilon_spec d;exact⟨this.1 a rfl,this.2⟩
theorem ac4(d:∀a b,A a=A b->a=b)(g:∀a,pre a->∃c,Q a c/\mM P cx f (A a) c):(wR P cx f A pre Q).Ok P cx f:=λa e=>(Ow d (g a e)).2
def Bg{tb:io}{c:Func}{D:Nat}{dl:DL}(i:P.follows .mixedOrders=true)(j7:jT P cx)(l:G4 P cx f c D dl)(n:α->Nat)(o:∀a d,A a=A d->a=d)(hl:∀a,nK (A a)=true)(j:∀a,(A a).length<=c.ntmps)
 (k:∀a,pre a->∀g,oN g 0 (A a)->W (kq cx (tz P cx tb) (n a) D dl (c.body.getD .skip) ⟨g,.nil⟩ hE) (B1 cx D c.results.toList λm e=>∃b,Q a b/\Oq e m b)):(wR P cx f A pre Q).Ok P cx f/\∀a,pre a->Q a ((wR P cx f A pre Q).R a):=by
 have e:∀a,pre a->∃b,Q a b/\mM P cx f (A a) b:=λa h=>ZP i j7 l (GC P cx tb) (hl a) (j a) (n a) (k a h)
 grind [Ow,ac4]
def pM(P:aj)(cx:Ctx)(f:ak)(A:α->List T)(pre:α->Prop)(Q:α->T->Prop):Prop:=(wR P cx f A pre Q).Ok P cx f/\∀a,pre a->Q a ((wR P cx f A pre Q).R a)
def Ej(d:α->Nat)(step:∀c,pM P cx f A (λa=>pre a/\d a<c) Q->pM P cx f A (λa=>pre a/\d a<c+1) Q):pM P cx f A pre Q:=by
 have e:∀c,pM P cx f A (λa=>pre a/\d a<c) Q:=by
  intro c;induction c with
  |zero=>exact⟨λa b=>absurd b.2 (Nat.not_lt_zero _),λa b=>absurd b.2 (Nat.not_lt_zero _)⟩
  |succ c g=>simp_all
 exact⟨λa b=>(e (d a+1)).1 a ⟨b,dx _⟩,λa b=>(e (d a+1)).2 a ⟨b,dx _⟩⟩
end
def Lp(b:Prop)(c:T):Prop:=∃a,c= .ez a/\(a=true->b)
@[simp]def acw (b:Prop) (a:Bool):Lp b (.ez a)=(a=true->b):=by
 unfold Lp;apply propext;constructor
 ·simp
 ·simp
@[simp]def afa (a:Bool):J7 (.ez a)=True:=by simp[J7]
end
end
end Go.TI
namespace Go.Proofs.YtalknpnbaceflaaGreatDoor
noncomputable section
open Go Go.TI Tryz
def iF(d:List (ak×iK)){b:iK}{g:ak}{c:Func}{e:Nat}{f:DL}(m:G4 prog cx g c e f)(h:b.α->Nat)(hl:∀a,nK (b.A a)=true)
 (l:∀a,b.pre a->∀i,oN i 0 (b.A a)->W (kq cx (tz prog cx ⟨pt d,ht []⟩) (h a) e f (c.body.getD .skip) ⟨i,.nil⟩ hE) (B1 cx e c.results.toList λd j=>Oq j d (b.R a)))
 (k:∀a,Nat.ble (b.A a).length c.ntmps=true:=by intro _;rfl):b.Ok prog cx g:=Ah (tb:=⟨pt d,ht []⟩) jv jl m h hl (λa=>bh (k a)) l
def jU(d:List (ak×iK)){e:Type}{b:e->List T}{l:e->Prop}{g:e->T->Prop}{j:ak}{c:Func}{f:Nat}{i:DL}(s:G4 prog cx j c f i)(k:e->Nat)(p:∀a h,b a=b h->a=h)
 (r:∀a,l a->∀n,oN n 0 (b a)->W (kq cx (tz prog cx ⟨pt d,ht []⟩) (k a) f i (c.body.getD .skip) ⟨n,.nil⟩ hE) (B1 cx f c.results.toList λd o=>∃m,g a m/\Oq o d m))
 (hl:∀a,nK (b a)=true:=by simp) (q:∀a,Nat.ble (b a).length c.ntmps=true:=by intro _;rfl):pM prog cx j b l g:=Bg (tb:=⟨pt d,ht []⟩) jv jl s k p hl (λa=>bh (q a)) r
structure iY where
 name:List Nat
 index:Int
 size:Int
 wx:Bool
 ka:Int
 deriving DecidableEq,Inhabited
def iY.cs(a:iY):List T:=[.str a.name,C a.index,C a.size,.ez a.wx,C a.ka]
def iY.t(a:iY):T:= .eZ a.cs
@[simp]def iY.ag (a:iY):sh a.t [.str a.name,C a.index,C a.size,.ez a.wx,C a.ka] 5:=DU
@[simp]theorem iY.fold (a0:List Nat) (a1 a2:Int) (a3:Bool) (a4:Int):T.eZ [.str a0,C a1,C a2,.ez a3,C a4]=iY.t ⟨a0,a1,a2,a3,a4⟩:=rfl
@[simp]theorem iY.eta (a:iY):iY.mk a.name a.index a.size a.wx a.ka=a:=rfl
def iY.inj{a b:iY}(c:a.t=b.t):a=b:=by
 rcases a with⟨_,_,_,_,_⟩;rcases b with⟨_,_,_,_,_⟩;simp[iY.t,iY.cs,-iY.fold]at c;simp[c]
def iY.tK(a b:List iY):(sl (a.map iY.t)=sl (b.map iY.t))=(a=b):=p8 λ_ _=>iY.inj
structure jq where
 name:List Nat
 rW:Bool
 deriving DecidableEq,Inhabited
def jq.cs(a:jq):List T:=[.str a.name,.ez a.rW]
def jq.t(a:jq):T:= .eZ a.cs
@[simp]def jq.ag (a:jq):sh a.t [.str a.name,.ez a.rW] 2:=DU
@[simp]theorem jq.fold (a0:List Nat) (a1:Bool):T.eZ [.str a0,.ez a1]=jq.t ⟨a0,a1⟩:=rfl
@[simp]theorem jq.eta (a:jq):jq.mk a.name a.rW=a:=rfl
def jq.inj{a b:jq}(c:a.t=b.t):a=b:=by
 rcases a with⟨_,_⟩;rcases b with⟨_,_⟩;simp[jq.t,jq.cs,-jq.fold]at c;simp[c]
def jq.tK(a b:List jq):(sl (a.map jq.t)=sl (b.map jq.t))=(a=b):=p8 λ_ _=>jq.inj
structure jG where
 name:List Nat
 kU:Int
 deriving DecidableEq,Inhabited
def jG.cs(a:jG):List T:=[.str a.name,C a.kU]
def jG.t(a:jG):T:= .eZ a.cs
@[simp]def jG.ag (a:jG):sh a.t [.str a.name,C a.kU] 2:=DU
@[simp]theorem jG.fold (a0:List Nat) (a1:Int):T.eZ [.str a0,C a1]=jG.t ⟨a0,a1⟩:=rfl
@[simp]theorem jG.eta (a:jG):jG.mk a.name a.kU=a:=rfl
def jG.inj{a b:jG}(c:a.t=b.t):a=b:=by
 rcases a with⟨_,_⟩;rcases b with⟨_,_⟩;simp[jG.t,jG.cs,-jG.fold]at c;simp[c]
def jG.tK(a b:List jG):(sl (a.map jG.t)=sl (b.map jG.t))=(a=b):=p8 λ_ _=>jG.inj
structure js where
 eJ:Int
 stmt:Int
 xx:Int
 deriving DecidableEq,Inhabited
def js.cs(a:js):List T:=[C a.eJ,C a.stmt,C a.xx]
def js.t(a:js):T:= .eZ a.cs
@[simp]def js.ag (a:js):sh a.t [C a.eJ,C a.stmt,C a.xx] 3:=DU
@[simp]theorem js.fold (a0 a1 a2:Int):T.eZ [C a0,C a1,C a2]=js.t ⟨a0,a1,a2⟩:=rfl
@[simp]theorem js.eta (a:js):js.mk a.eJ a.stmt a.xx=a:=rfl
def js.inj{a b:js}(c:a.t=b.t):a=b:=by
 rcases a with⟨_,_,_⟩;rcases b with⟨_,_,_⟩;simp[js.t,js.cs,-js.fold]at c;simp[c]
def js.tK(a b:List js):(sl (a.map js.t)=sl (b.map js.t))=(a=b):=p8 λ_ _=>js.inj
structure fy where
 cells:List iY
 fI:List jq
 iL:List jG
 fH:List (List Nat)
 ee:List (List Nat)
 jy:List js
 deriving DecidableEq,Inhabited
def fy.cs(a:fy):List T:=[sl (a.cells.map iY.t),sl (a.fI.map jq.t),sl (a.iL.map jG.t),sl (a.fH.map T.str),sl (a.ee.map T.str),sl (a.jy.map js.t)]
def fy.t(a:fy):T:= .eZ a.cs
@[simp]def fy.ag (a:fy):sh a.t [sl (a.cells.map iY.t),sl (a.fI.map jq.t),sl (a.iL.map jG.t),sl (a.fH.map T.str),sl (a.ee.map T.str),sl (a.jy.map js.t)] 6:=DU
@[simp]theorem fy.fold (a0:List iY) (a1:List jq) (a2:List jG) (a3 a4:List (List Nat)) (a5:List js):T.eZ [sl (a0.map iY.t),sl (a1.map jq.t),sl (a2.map jG.t),sl (a3.map T.str),sl (a4.map T.str),sl (a5.map js.t)]=fy.t ⟨a0,a1,a2,a3,a4,a5⟩:=rfl
@[simp]theorem fy.eta (a:fy):fy.mk a.cells a.fI a.iL a.fH a.ee a.jy=a:=rfl
def fy.inj{a b:fy}(c:a.t=b.t):a=b:=by
 rcases a with⟨_,_,_,_,_,_⟩;rcases b with⟨_,_,_,_,_,_⟩;simp[fy.t,fy.cs,iY.tK,jG.tK,jq.tK,js.tK,slS,-fy.fold]at c;simp[c]
structure fa where
 jg:Int
 fO:List Int
 deriving DecidableEq,Inhabited
def fa.cs(a:fa):List T:=[C a.jg,sl (a.fO.map (T.int .i64))]
def fa.t(a:fa):T:= .eZ a.cs
@[simp]def fa.ag (a:fa):sh a.t [C a.jg,sl (a.fO.map (T.int .i64))] 2:=DU
@[simp]theorem fa.fold (a0:Int) (a1:List Int):T.eZ [C a0,sl (a1.map (T.int .i64))]=fa.t ⟨a0,a1⟩:=rfl
@[simp]theorem fa.eta (a:fa):fa.mk a.jg a.fO=a:=rfl
def fa.inj{a b:fa}(c:a.t=b.t):a=b:=by
 rcases a with⟨_,_⟩;rcases b with⟨_,_⟩;simp[fa.t,fa.cs,Wc,-fa.fold]at c;simp[c]
def fa.tK(a b:List fa):(sl (a.map fa.t)=sl (b.map fa.t))=(a=b):=p8 λ_ _=>fa.inj
structure ei where
 je:Int
 cond:Int
 atomic:Bool
 deriving DecidableEq,Inhabited
def ei.cs(a:ei):List T:=[C a.je,C a.cond,.ez a.atomic]
def ei.t(a:ei):T:= .eZ a.cs
@[simp]def ei.ag (a:ei):sh a.t [C a.je,C a.cond,.ez a.atomic] 3:=DU
@[simp]theorem ei.fold (a0 a1:Int) (a2:Bool):T.eZ [C a0,C a1,.ez a2]=ei.t ⟨a0,a1,a2⟩:=rfl
@[simp]theorem ei.eta (a:ei):ei.mk a.je a.cond a.atomic=a:=rfl
def ei.inj{a b:ei}(c:a.t=b.t):a=b:=by
 rcases a with⟨_,_,_⟩;rcases b with⟨_,_,_⟩;simp[ei.t,ei.cs,-ei.fold]at c;simp[c]
def ei.tK(a b:List ei):(sl (a.map ei.t)=sl (b.map ei.t))=(a=b):=p8 λ_ _=>ei.inj
structure gY where
 fI:List fa
 tx:Int
 done:List Bool
 ee:List ei
 deriving DecidableEq,Inhabited
def gY.cs(a:gY):List T:=[sl (a.fI.map fa.t),C a.tx,sl (a.done.map T.ez),sl (a.ee.map ei.t)]
def gY.t(a:gY):T:= .eZ a.cs
@[simp]def gY.ag (a:gY):sh a.t [sl (a.fI.map fa.t),C a.tx,sl (a.done.map T.ez),sl (a.ee.map ei.t)] 4:=DU
@[simp]theorem gY.fold (a0:List fa) (a1:Int) (a2:List Bool) (a3:List ei):T.eZ [sl (a0.map fa.t),C a1,sl (a2.map T.ez),sl (a3.map ei.t)]=gY.t ⟨a0,a1,a2,a3⟩:=rfl
@[simp]theorem gY.eta (a:gY):gY.mk a.fI a.tx a.done a.ee=a:=rfl
def gY.inj{a b:gY}(c:a.t=b.t):a=b:=by
 rcases a with⟨_,_,_,_⟩;rcases b with⟨_,_,_,_⟩;simp[gY.t,gY.cs,fa.tK,ei.tK,slB,-gY.fold]at c;simp[c]
def gY.tK(a b:List gY):(sl (a.map gY.t)=sl (b.map gY.t))=(a=b):=p8 λ_ _=>gY.inj
structure gH where
 gu:gY
 cells:List Int
 fH:List Int
 count:List Int
 deriving DecidableEq,Inhabited
def gH.cs(a:gH):List T:=[sl (a.gu.fI.map fa.t),C a.gu.tx,sl (a.gu.done.map T.ez),sl (a.gu.ee.map ei.t),sl (a.cells.map (T.int .i64)),sl (a.fH.map (T.int .i64)),sl (a.count.map (T.int .i64))]
def gH.t(a:gH):T:= .eZ a.cs
@[simp]def gH.ag (a:gH):sh a.t [sl (a.gu.fI.map fa.t),C a.gu.tx,sl (a.gu.done.map T.ez),sl (a.gu.ee.map ei.t),sl (a.cells.map (T.int .i64)),sl (a.fH.map (T.int .i64)),sl (a.count.map (T.int .i64))] 7:=DU
@[simp]theorem gH.fold (a0:List fa) (a1:Int) (a2:List Bool) (a3:List ei) (a4 a5 a:List Int):T.eZ [sl (a0.map fa.t),C a1,sl (a2.map T.ez),sl (a3.map ei.t),sl (a4.map (T.int .i64)),sl (a5.map (T.int .i64)),sl (a.map (T.int .i64))]=gH.t ⟨⟨a0,a1,a2,a3⟩,a4,a5,a⟩:=rfl
@[simp]theorem gH.eta (a:gH):gH.mk a.gu a.cells a.fH a.count=a:=rfl
def gH.inj{a b:gH}(c:a.t=b.t):a=b:=by
 rcases a with⟨⟨_,_,_,_⟩,_,_,_⟩;rcases b with⟨⟨_,_,_,_⟩,_,_,_⟩;simp[gH.t,gH.cs,fa.tK,ei.tK,slB,Wc,-gH.fold]at c;simp[c]
structure fR where
 eJ:Int
 fh:Int
 obj:Int
 value:Int
 jY:Int
 nQ:List Int
 wm:List Int
 deriving DecidableEq,Inhabited
def fR.cs(a:fR):List T:=[C a.eJ,C a.fh,C a.obj,C a.value,C a.jY,sl (a.nQ.map (T.int .i64)),sl (a.wm.map (T.int .i64))]
def fR.t(a:fR):T:= .eZ a.cs
@[simp]def fR.ag (a:fR):sh a.t [C a.eJ,C a.fh,C a.obj,C a.value,C a.jY,sl (a.nQ.map (T.int .i64)),sl (a.wm.map (T.int .i64))] 7:=DU
@[simp]theorem fR.fold (a0 a1 a2 a3 a4:Int) (a5 a:List Int):T.eZ [C a0,C a1,C a2,C a3,C a4,sl (a5.map (T.int .i64)),sl (a.map (T.int .i64))]=fR.t ⟨a0,a1,a2,a3,a4,a5,a⟩:=rfl
@[simp]theorem fR.eta (a:fR):fR.mk a.eJ a.fh a.obj a.value a.jY a.nQ a.wm=a:=rfl
def fR.inj{a b:fR}(c:a.t=b.t):a=b:=by
 rcases a with⟨_,_,_,_,_,_,_⟩;rcases b with⟨_,_,_,_,_,_,_⟩;simp[fR.t,fR.cs,Wc,-fR.fold]at c;simp[c]
def fR.tK(a b:List fR):(sl (a.map fR.t)=sl (b.map fR.t))=(a=b):=p8 λ_ _=>fR.inj
structure fg where
 fM:fy
 start:Int
 ka:gH
 ej:List fR
 deriving DecidableEq,Inhabited
def fg.cs(a:fg):List T:=[sl (a.fM.cells.map iY.t),sl (a.fM.fI.map jq.t),sl (a.fM.iL.map jG.t),sl (a.fM.fH.map T.str),sl (a.fM.ee.map T.str),sl (a.fM.jy.map js.t),C a.start,sl (a.ka.gu.fI.map fa.t),C a.ka.gu.tx,sl (a.ka.gu.done.map T.ez),sl (a.ka.gu.ee.map ei.t),sl (a.ka.cells.map (T.int .i64)),sl (a.ka.fH.map (T.int .i64)),sl (a.ka.count.map (T.int .i64)),sl (a.ej.map fR.t)]
def fg.t(a:fg):T:= .eZ a.cs
@[simp]def fg.ag (a:fg):sh a.t [sl (a.fM.cells.map iY.t),sl (a.fM.fI.map jq.t),sl (a.fM.iL.map jG.t),sl (a.fM.fH.map T.str),sl (a.fM.ee.map T.str),sl (a.fM.jy.map js.t),C a.start,sl (a.ka.gu.fI.map fa.t),C a.ka.gu.tx,sl (a.ka.gu.done.map T.ez),sl (a.ka.gu.ee.map ei.t),sl (a.ka.cells.map (T.int .i64)),sl (a.ka.fH.map (T.int .i64)),sl (a.ka.count.map (T.int .i64)),sl (a.ej.map fR.t)] 15:=DU
@[simp]theorem fg.fold (a0:List iY) (a1:List jq) (a2:List jG) (a3 a4:List (List Nat)) (a5:List js) (f:Int) (g:List fa) (h:Int) (i:List Bool) (a:List ei) (b c d:List Int) (e:List fR):T.eZ [sl (a0.map iY.t),sl (a1.map jq.t),sl (a2.map jG.t),sl (a3.map T.str),sl (a4.map T.str),sl (a5.map js.t),C f,sl (g.map fa.t),C h,sl (i.map T.ez),sl (a.map ei.t),sl (b.map (T.int .i64)),sl (c.map (T.int .i64)),sl (d.map (T.int .i64)),sl (e.map fR.t)]=fg.t ⟨⟨a0,a1,a2,a3,a4,a5⟩,f,⟨⟨g,h,i,a⟩,b,c,d⟩,e⟩:=rfl
@[simp]theorem fg.eta (a:fg):fg.mk a.fM a.start a.ka a.ej=a:=rfl
def fg.inj{a b:fg}(c:a.t=b.t):a=b:=by
 rcases a with⟨⟨_,_,_,_,_,_⟩,_,⟨⟨_,_,_,_⟩,_,_,_⟩,_⟩;rcases b with⟨⟨_,_,_,_,_,_⟩,_,⟨⟨_,_,_,_⟩,_,_,_⟩,_⟩;simp[fg.t,fg.cs,iY.tK,jG.tK,fR.tK,jq.tK,fa.tK,js.tK,ei.tK,slB,Wc,slS,-fg.fold]at c;simp[c]
structure jm where
 fh:Int
 a:Int
 b:Int
 c:Int
 d:Int
 jz:List Int
 deriving DecidableEq,Inhabited
def jm.cs(e:jm):List T:=[C e.fh,C e.a,C e.b,C e.c,C e.d,sl (e.jz.map (T.int .i64))]
def jm.t(a:jm):T:= .eZ a.cs
@[simp]def jm.ag (e:jm):sh e.t [C e.fh,C e.a,C e.b,C e.c,C e.d,sl (e.jz.map (T.int .i64))] 6:=DU
@[simp]theorem jm.fold (a0 a1 a2 a3 a4:Int) (a5:List Int):T.eZ [C a0,C a1,C a2,C a3,C a4,sl (a5.map (T.int .i64))]=jm.t ⟨a0,a1,a2,a3,a4,a5⟩:=rfl
@[simp]theorem jm.eta (e:jm):jm.mk e.fh e.a e.b e.c e.d e.jz=e:=rfl
def jm.inj{a b:jm}(c:a.t=b.t):a=b:=by
 rcases a with⟨_,_,_,_,_,_⟩;rcases b with⟨_,_,_,_,_,_⟩;simp[jm.t,jm.cs,Wc,-jm.fold]at c;simp[c]
structure lL where
 fM:fy
 ej:List fR
 deriving DecidableEq,Inhabited
def lL.cs(a:lL):List T:=[sl (a.fM.cells.map iY.t),sl (a.fM.fI.map jq.t),sl (a.fM.iL.map jG.t),sl (a.fM.fH.map T.str),sl (a.fM.ee.map T.str),sl (a.fM.jy.map js.t),sl (a.ej.map fR.t)]
def lL.t(a:lL):T:= .eZ a.cs
@[simp]def lL.ag (a:lL):sh a.t [sl (a.fM.cells.map iY.t),sl (a.fM.fI.map jq.t),sl (a.fM.iL.map jG.t),sl (a.fM.fH.map T.str),sl (a.fM.ee.map T.str),sl (a.fM.jy.map js.t),sl (a.ej.map fR.t)] 7:=DU
@[simp]theorem lL.fold (a0:List iY) (a1:List jq) (a2:List jG) (a3 a4:List (List Nat)) (a5:List js) (a:List fR):T.eZ [sl (a0.map iY.t),sl (a1.map jq.t),sl (a2.map jG.t),sl (a3.map T.str),sl (a4.map T.str),sl (a5.map js.t),sl (a.map fR.t)]=lL.t ⟨⟨a0,a1,a2,a3,a4,a5⟩,a⟩:=rfl
@[simp]theorem lL.eta (a:lL):lL.mk a.fM a.ej=a:=rfl
def lL.inj{a b:lL}(c:a.t=b.t):a=b:=by
 rcases a with⟨⟨_,_,_,_,_,_⟩,_⟩;rcases b with⟨⟨_,_,_,_,_,_⟩,_⟩;simp[lL.t,lL.cs,iY.tK,jG.tK,fR.tK,jq.tK,js.tK,slS,-lL.fold]at c;simp[c]
structure iw where
 w:fg
 ER:List gY
 deriving DecidableEq,Inhabited
def iw.cs(a:iw):List T:=[sl (a.w.fM.cells.map iY.t),sl (a.w.fM.fI.map jq.t),sl (a.w.fM.iL.map jG.t),sl (a.w.fM.fH.map T.str),sl (a.w.fM.ee.map T.str),sl (a.w.fM.jy.map js.t),C a.w.start,sl (a.w.ka.gu.fI.map fa.t),C a.w.ka.gu.tx,sl (a.w.ka.gu.done.map T.ez),sl (a.w.ka.gu.ee.map ei.t),sl (a.w.ka.cells.map (T.int .i64)),sl (a.w.ka.fH.map (T.int .i64)),sl (a.w.ka.count.map (T.int .i64)),sl (a.w.ej.map fR.t),sl (a.ER.map gY.t)]
def iw.t(a:iw):T:= .eZ a.cs
@[simp]def iw.ag (a:iw):sh a.t [sl (a.w.fM.cells.map iY.t),sl (a.w.fM.fI.map jq.t),sl (a.w.fM.iL.map jG.t),sl (a.w.fM.fH.map T.str),sl (a.w.fM.ee.map T.str),sl (a.w.fM.jy.map js.t),C a.w.start,sl (a.w.ka.gu.fI.map fa.t),C a.w.ka.gu.tx,sl (a.w.ka.gu.done.map T.ez),sl (a.w.ka.gu.ee.map ei.t),sl (a.w.ka.cells.map (T.int .i64)),sl (a.w.ka.fH.map (T.int .i64)),sl (a.w.ka.count.map (T.int .i64)),sl (a.w.ej.map fR.t),sl (a.ER.map gY.t)] 16:=DU
@[simp]theorem iw.fold (a0:List iY) (a1:List jq) (a2:List jG) (a3 a4:List (List Nat)) (a5:List js) (g:Int) (h:List fa) (i:Int) (j:List Bool) (a:List ei) (b c d:List Int) (e:List fR) (f:List gY):T.eZ [sl (a0.map iY.t),sl (a1.map jq.t),sl (a2.map jG.t),sl (a3.map T.str),sl (a4.map T.str),sl (a5.map js.t),C g,sl (h.map fa.t),C i,sl (j.map T.ez),sl (a.map ei.t),sl (b.map (T.int .i64)),sl (c.map (T.int .i64)),sl (d.map (T.int .i64)),sl (e.map fR.t),sl (f.map gY.t)]=iw.t ⟨⟨⟨a0,a1,a2,a3,a4,a5⟩,g,⟨⟨h,i,j,a⟩,b,c,d⟩,e⟩,f⟩:=rfl
@[simp]theorem iw.eta (a:iw):iw.mk a.w a.ER=a:=rfl
def iw.inj{a b:iw}(c:a.t=b.t):a=b:=by
 rcases a with⟨⟨⟨_,_,_,_,_,_⟩,_,⟨⟨_,_,_,_⟩,_,_,_⟩,_⟩,_⟩;rcases b with⟨⟨⟨_,_,_,_,_,_⟩,_,⟨⟨_,_,_,_⟩,_,_,_⟩,_⟩,_⟩;simp[iw.t,iw.cs,iY.tK,jG.tK,fR.tK,jq.tK,fa.tK,js.tK,gY.tK,ei.tK,slB,Wc,slS,-iw.fold]at c;simp[c]
structure iE where
 op:Int
 a:Int
 b:Int
 c:Int
 n:Int
 jY:Int
 deriving DecidableEq,Inhabited
def iE.cs(d:iE):List T:=[C d.op,C d.a,C d.b,C d.c,C d.n,C d.jY]
def iE.t(a:iE):T:= .eZ a.cs
@[simp]def iE.ag (d:iE):sh d.t [C d.op,C d.a,C d.b,C d.c,C d.n,C d.jY] 6:=DU
@[simp]theorem iE.fold (a0 a1 a2 a3 a4 a5:Int):T.eZ [C a0,C a1,C a2,C a3,C a4,C a5]=iE.t ⟨a0,a1,a2,a3,a4,a5⟩:=rfl
@[simp]theorem iE.eta (d:iE):iE.mk d.op d.a d.b d.c d.n d.jY=d:=rfl
def iE.inj{a b:iE}(c:a.t=b.t):a=b:=by
 rcases a with⟨_,_,_,_,_,_⟩;rcases b with⟨_,_,_,_,_,_⟩;simp[iE.t,iE.cs,-iE.fold]at c;simp[c]
def iE.tK(a b:List iE):(sl (a.map iE.t)=sl (b.map iE.t))=(a=b):=p8 λ_ _=>iE.inj
structure iC where
 jN:Int
 j3:List iE
 deriving DecidableEq,Inhabited
def iC.cs(a:iC):List T:=[C a.jN,sl (a.j3.map iE.t)]
def iC.t(a:iC):T:= .eZ a.cs
@[simp]def iC.ag (a:iC):sh a.t [C a.jN,sl (a.j3.map iE.t)] 2:=DU
@[simp]theorem iC.fold (a0:Int) (a1:List iE):T.eZ [C a0,sl (a1.map iE.t)]=iC.t ⟨a0,a1⟩:=rfl
@[simp]theorem iC.eta (a:iC):iC.mk a.jN a.j3=a:=rfl
def iC.inj{a b:iC}(c:a.t=b.t):a=b:=by
 rcases a with⟨_,_⟩;rcases b with⟨_,_⟩;simp[iC.t,iC.cs,iE.tK,-iC.fold]at c;simp[c]
def iC.tK(a b:List iC):(sl (a.map iC.t)=sl (b.map iC.t))=(a=b):=p8 λ_ _=>iC.inj
structure kP where
 fM:fy
 ee:List iC
 deriving DecidableEq,Inhabited
def kP.cs(a:kP):List T:=[sl (a.fM.cells.map iY.t),sl (a.fM.fI.map jq.t),sl (a.fM.iL.map jG.t),sl (a.fM.fH.map T.str),sl (a.fM.ee.map T.str),sl (a.fM.jy.map js.t),sl (a.ee.map iC.t)]
def kP.t(a:kP):T:= .eZ a.cs
@[simp]def kP.ag (a:kP):sh a.t [sl (a.fM.cells.map iY.t),sl (a.fM.fI.map jq.t),sl (a.fM.iL.map jG.t),sl (a.fM.fH.map T.str),sl (a.fM.ee.map T.str),sl (a.fM.jy.map js.t),sl (a.ee.map iC.t)] 7:=DU
@[simp]theorem kP.fold (a0:List iY) (a1:List jq) (a2:List jG) (a3 a4:List (List Nat)) (a5:List js) (a:List iC):T.eZ [sl (a0.map iY.t),sl (a1.map jq.t),sl (a2.map jG.t),sl (a3.map T.str),sl (a4.map T.str),sl (a5.map js.t),sl (a.map iC.t)]=kP.t ⟨⟨a0,a1,a2,a3,a4,a5⟩,a⟩:=rfl
@[simp]theorem kP.eta (a:kP):kP.mk a.fM a.ee=a:=rfl
def kP.inj{a b:kP}(c:a.t=b.t):a=b:=by
 rcases a with⟨⟨_,_,_,_,_,_⟩,_⟩;rcases b with⟨⟨_,_,_,_,_,_⟩,_⟩;simp[kP.t,kP.cs,iY.tK,jG.tK,jq.tK,js.tK,iC.tK,slS,-kP.fold]at c;simp[c]
structure fV where
 pC:Int
 jN:List Int
 lr:List (List Int)
 ej:Int
 deriving DecidableEq,Inhabited
def fV.cs(a:fV):List T:=[C a.pC,sl (a.jN.map (T.int .i64)),sl (a.lr.map (λb=>sl (b.map (T.int .i64)))),C a.ej]
def fV.t(a:fV):T:= .eZ a.cs
@[simp]def fV.ag (a:fV):sh a.t [C a.pC,sl (a.jN.map (T.int .i64)),sl (a.lr.map (λb=>sl (b.map (T.int .i64)))),C a.ej] 4:=DU
@[simp]theorem fV.fold (a0:Int) (a1:List Int) (a2:List (List Int)) (a3:Int):T.eZ [C a0,sl (a1.map (T.int .i64)),sl (a2.map (λa=>sl (a.map (T.int .i64)))),C a3]=fV.t ⟨a0,a1,a2,a3⟩:=rfl
@[simp]theorem fV.eta (a:fV):fV.mk a.pC a.jN a.lr a.ej=a:=rfl
def fV.inj{a b:fV}(c:a.t=b.t):a=b:=by
 rcases a with⟨_,_,_,_⟩;rcases b with⟨_,_,_,_⟩;simp only[fV.t,fV.cs,T.eZ.injEq,bY]at c;obtain⟨d,e,f,g,_⟩:=c;obtain rfl:=F0 d;obtain rfl:=EX (λ_ _=>F0) _ _ e;obtain rfl:=EX (EX (λ_ _=>F0)) _ _ f;obtain rfl:=F0 g;rfl
def fV.tK(a b:List fV):(sl (a.map fV.t)=sl (b.map fV.t))=(a=b):=p8 λ_ _=>fV.inj
structure jD where
 gu:gY
 cells:List Int
 fH:List Int
 ee:List fV
 deriving DecidableEq,Inhabited
def jD.cs(a:jD):List T:=[sl (a.gu.fI.map fa.t),C a.gu.tx,sl (a.gu.done.map T.ez),sl (a.gu.ee.map ei.t),sl (a.cells.map (T.int .i64)),sl (a.fH.map (T.int .i64)),sl (a.ee.map fV.t)]
def jD.t(a:jD):T:= .eZ a.cs
@[simp]def jD.ag (a:jD):sh a.t [sl (a.gu.fI.map fa.t),C a.gu.tx,sl (a.gu.done.map T.ez),sl (a.gu.ee.map ei.t),sl (a.cells.map (T.int .i64)),sl (a.fH.map (T.int .i64)),sl (a.ee.map fV.t)] 7:=DU
@[simp]theorem jD.fold (a0:List fa) (a1:Int) (a2:List Bool) (a3:List ei) (a4 a5:List Int) (a:List fV):T.eZ [sl (a0.map fa.t),C a1,sl (a2.map T.ez),sl (a3.map ei.t),sl (a4.map (T.int .i64)),sl (a5.map (T.int .i64)),sl (a.map fV.t)]=jD.t ⟨⟨a0,a1,a2,a3⟩,a4,a5,a⟩:=rfl
@[simp]theorem jD.eta (a:jD):jD.mk a.gu a.cells a.fH a.ee=a:=rfl
def jD.inj{a b:jD}(c:a.t=b.t):a=b:=by
 rcases a with⟨⟨_,_,_,_⟩,_,_,_⟩;rcases b with⟨⟨_,_,_,_⟩,_,_,_⟩;simp[jD.t,jD.cs,fa.tK,fV.tK,ei.tK,slB,Wc,-jD.fold]at c;simp[c]
structure iv where
 eJ:Int
 ry:Int
 deriving DecidableEq,Inhabited
def iv.cs(a:iv):List T:=[C a.eJ,C a.ry]
def iv.t(a:iv):T:= .eZ a.cs
@[simp]def iv.ag (a:iv):sh a.t [C a.eJ,C a.ry] 2:=DU
@[simp]theorem iv.fold (a0 a1:Int):T.eZ [C a0,C a1]=iv.t ⟨a0,a1⟩:=rfl
@[simp]theorem iv.eta (a:iv):iv.mk a.eJ a.ry=a:=rfl
def iv.inj{a b:iv}(c:a.t=b.t):a=b:=by
 rcases a with⟨_,_⟩;rcases b with⟨_,_⟩;simp[iv.t,iv.cs,-iv.fold]at c;simp[c]
structure jo where
 fh:Int
 xx:Int
 name:List Nat
 size:Int
 ka:Int
 on:List Nat
 deriving DecidableEq,Inhabited
def jo.cs(a:jo):List T:=[C a.fh,C a.xx,.str a.name,C a.size,C a.ka,.str a.on]
def jo.t(a:jo):T:= .eZ a.cs
@[simp]def jo.ag (a:jo):sh a.t [C a.fh,C a.xx,.str a.name,C a.size,C a.ka,.str a.on] 6:=DU
@[simp]theorem jo.fold (a0 a1:Int) (a2:List Nat) (a3 a4:Int) (a5:List Nat):T.eZ [C a0,C a1,.str a2,C a3,C a4,.str a5]=jo.t ⟨a0,a1,a2,a3,a4,a5⟩:=rfl
@[simp]theorem jo.eta (a:jo):jo.mk a.fh a.xx a.name a.size a.ka a.on=a:=rfl
def jo.inj{a b:jo}(c:a.t=b.t):a=b:=by
 rcases a with⟨_,_,_,_,_,_⟩;rcases b with⟨_,_,_,_,_,_⟩;simp[jo.t,jo.cs,-jo.fold]at c;simp[c]
structure im where
 value:Int
 known:Bool
 deriving DecidableEq,Inhabited
def im.cs(a:im):List T:=[C a.value,.ez a.known]
def im.t(a:im):T:= .eZ a.cs
@[simp]def im.ag (a:im):sh a.t [C a.value,.ez a.known] 2:=DU
@[simp]theorem im.fold (a0:Int) (a1:Bool):T.eZ [C a0,.ez a1]=im.t ⟨a0,a1⟩:=rfl
@[simp]theorem im.eta (a:im):im.mk a.value a.known=a:=rfl
def im.inj{a b:im}(c:a.t=b.t):a=b:=by
 rcases a with⟨_,_⟩;rcases b with⟨_,_⟩;simp[im.t,im.cs,-im.fold]at c;simp[c]
def im.tK(a b:List im):(sl (a.map im.t)=sl (b.map im.t))=(a=b):=p8 λ_ _=>im.inj
structure fT where
 gu:gY
 cells:List im
 fH:List im
 order:List Int
 fixed:List Bool
 qA:List Int
 deriving DecidableEq,Inhabited
def fT.cs(a:fT):List T:=[sl (a.gu.fI.map fa.t),C a.gu.tx,sl (a.gu.done.map T.ez),sl (a.gu.ee.map ei.t),sl (a.cells.map im.t),sl (a.fH.map im.t),sl (a.order.map (T.int .i64)),sl (a.fixed.map T.ez),sl (a.qA.map (T.int .i64))]
def fT.t(a:fT):T:= .eZ a.cs
@[simp]def fT.ag (a:fT):sh a.t [sl (a.gu.fI.map fa.t),C a.gu.tx,sl (a.gu.done.map T.ez),sl (a.gu.ee.map ei.t),sl (a.cells.map im.t),sl (a.fH.map im.t),sl (a.order.map (T.int .i64)),sl (a.fixed.map T.ez),sl (a.qA.map (T.int .i64))] 9:=DU
@[simp]theorem fT.fold (a0:List fa) (a1:Int) (a2:List Bool) (a3:List ei) (a4 a5:List im) (a:List Int) (b:List Bool) (c:List Int):T.eZ [sl (a0.map fa.t),C a1,sl (a2.map T.ez),sl (a3.map ei.t),sl (a4.map im.t),sl (a5.map im.t),sl (a.map (T.int .i64)),sl (b.map T.ez),sl (c.map (T.int .i64))]=fT.t ⟨⟨a0,a1,a2,a3⟩,a4,a5,a,b,c⟩:=rfl
@[simp]theorem fT.eta (a:fT):fT.mk a.gu a.cells a.fH a.order a.fixed a.qA=a:=rfl
def fT.inj{a b:fT}(c:a.t=b.t):a=b:=by
 rcases a with⟨⟨_,_,_,_⟩,_,_,_,_,_⟩;rcases b with⟨⟨_,_,_,_⟩,_,_,_,_,_⟩;simp[fT.t,fT.cs,im.tK,fa.tK,ei.tK,slB,Wc,-fT.fold]at c;simp[c]
def ju(a:Int)(b:Nat):Bool:=decide (0<=a/\a<b)
def qB{b:Type}(c:List b)(a:Int):aa b:=if 0<=a then c[a.toNat]? else none
def fQ{a:Int}{b:Nat}:ju a b=true↔0<=a/\a.toNat<b:=by unfold ju;simp;omega
def rS{a:Int}{c:Nat}(b:ju a c=false):¬(0<=a/\a.toNat<c):=λd=>by rw[fQ.2 d]at b;simp at b
def jn{e:Type}{l:List e}{i:Int}(c:ju i l.length=true):∃b,l[i.toNat]? =some b/\qB l i=some b:=by
 have⟨d,a⟩:=fQ.1 c;exact⟨l[i.toNat],by simp[a],by simp[qB,d,a]⟩
def pF{d:Type}{b:List d}{a:Int}(c:ju a b.length=false):qB b a=none:=by
 have:=rS c;unfold qB;split
 ·simp;omega
 ·rfl
def mK(a:fy)(b:gY):Bool:=(a.iL.all λc=>ju c.kU a.fI.length)&&decide (b.fI.length=a.fI.length)&&decide (b.done.length=a.fH.length)&&decide (b.ee.length=a.ee.length)
def j8(c:fy)(a b:Int):Bool:=
 if a=1\/a=2\/a=5\/a=12\/a=13\/a=14\/a=15 then decide (b=-1)
 else if a=3\/a=4 then ju b c.cells.length
 else if a=6\/a=7 then(match qB c.fI b with|some d=> !d.rW|none=>false)
 else if a=8\/a=9\/a=10\/a=11 then(match qB c.fI b with|some d=>d.rW|none=>false)
 else if a=16\/a=17\/a=18\/a=19 then ju b c.iL.length
 else if a=20\/a=21 then ju b c.ee.length
 else if a=22\/a=23 then ju b c.fH.length
 else false
def ji(a:Int):List ei->Nat->List Int
 | [],_=>[]
 |t::c,b=>if t.je=3/\t.cond=a then(b:Int)::ji a c (b+1)else ji a c (b+1)
def kl(b:gY)(a:Int):fa:=(qB b.fI a).getD default
def j2(b:gY)(a:Int):ei:=(qB b.ee a).getD default
def pT(c:fy)(b:gY)(a:Int):fa:=kl b ((qB c.iL a).getD default).kU
def Gv(b:gY)(a:Int):Bool:=(qB b.done a).getD false
def vd(e:fy)(a:gY)(d b c:Int):Bool:=
 if b=1 then decide ((j2 a d).je=1)
 else if b=17 then decide ((j2 a d).je=4)&&decide ((j2 a d).cond=c)&&decide ((pT e a c).jg=-1)
 else if¬(j2 a d).je=2 then false
 else if b=6 then decide ((kl a c).jg=-1)
 else if b=10 then decide ((kl a c).jg=-1)&&decide ((kl a c).fO=[])
 else if b=8 then decide ((kl a c).jg=-1)&& !decide (d∈(kl a c).fO)
 else if b=7\/b=11 then decide ((kl a c).jg=d)
 else if b=9 then decide (d∈(kl a c).fO)
 else if b=12 then decide (a.tx=-1)
 else if b=13 then decide (a.tx=d)
 else if b=14 then !(j2 a d).atomic
 else if b=15 then(j2 a d).atomic
 else if b=16\/b=18\/b=19 then decide ((pT e a c).jg=d)
 else if b=20 then !decide (c=d)&&decide ((j2 a c).je=0)
 else if b=21 then !decide (c=d)&&decide ((j2 a c).je=5)
 else if b=22 then !Gv a c
 else if b=23 then Gv a c
 else true
def iV(a:fy)(d:gY)(e b c:Int):Bool:=mK a d&&ju e a.ee.length&&j8 a b c&&vd a d e b c
def kY{c:fy}{b:gY}(a:mK c b=true):b.fI.length=c.fI.length/\b.done.length=c.fH.length/\b.ee.length=c.ee.length:=by
 unfold mK at a;simp at a;exact⟨a.1.1.2,a.1.2,a.2⟩
def r7{c:fy}{f:gY}(b:mK c f=true){e:Nat}{a:jG}(d:c.iL[e]? =some a):ju a.kU c.fI.length=true:=by
 unfold mK at b;simp at b;exact b.1.1.1 a (aC d)
def qr{d:fy}{a c:Int}(b:j8 d a c=true):a=1\/a=2\/a=3\/a=4\/a=5\/a=12\/a=13\/a=14\/a=15\/(a=6\/a=7\/a=8\/a=9\/a=10\/a=11)\/(a=16\/a=17\/a=18\/a=19)\/(a=20\/a=21)\/(a=22\/a=23):=by
 by_cases e:1<=a/\a<=23
 ·omega
 ·exfalso;unfold j8 at b;rw[Z B,Z B,Z B,Z B,Z B,Z B,Z B]at b;simp at b
def kJ{d:fy}{a c:Int}(b:j8 d a c=true)(e:a=6\/a=7\/a=8\/a=9\/a=10\/a=11):ju c d.fI.length=true:=by
 cases hl:ju c d.fI.length with
 |true=>rfl
 |false=>
  unfold j8 at b;rw[Z B,Z B]at b;rcases e with rfl|rfl|rfl|rfl|rfl|rfl<;>simp[pF hl]at b
def mZ{d:fy}{a c:Int}(b:j8 d a c=true)(e:a=16\/a=17\/a=18\/a=19):ju c d.iL.length=true:=by
 unfold j8 at b;rwa[Z B,Z B,Z B,Z B,au e]at b
def rR{d:fy}{a c:Int}(b:j8 d a c=true)(e:a=20\/a=21):ju c d.ee.length=true:=by
 unfold j8 at b;rwa[Z B,Z B,Z B,Z B,Z B,au e]at b
def uv{d:fy}{a c:Int}(b:j8 d a c=true)(e:a=22\/a=23):ju c d.fH.length=true:=by
 unfold j8 at b;rwa[Z B,Z B,Z B,Z B,Z B,Z B,au e]at b
def gY.sm(a:gY):Prop:=a.fI.length<=1099511627776/\a.done.length<=1099511627776/\a.ee.length<=1099511627776/\∀b∈a.fI,b.fO.length<=1000000000000
def gY.pf(a:gY)(i:Int)(b:ei->ei):gY:={a with ee:=a.ee.modify i.toNat b}
def gY.pO(a:gY)(c:Int)(b:fa->fa):gY:={a with fI:=a.fI.modify c.toNat b}
def kV(a:Int)(b:ei):ei:={b with je:=a}
def m6:List Int->Int->List Int
 | [],a=>[a]
 |x::b,a=>if x<a then x::m6 b a else if x=a then x::b else a::x::b
def xW(a c:Int)(b:List ei):Int:=if c∈ji a b 0 then c else(ji a b 0).headD (-1)
def fZ(g:fy)(a:gY)(f b c h:Int):gY×Int:=
 if b=1 then(a.pf f (kV 2),0)
 else if b=2 then(a.pf f (kV 5),0)
 else if b=6\/b=10 then(a.pO c λd=>{d with jg:=f},0)
 else if b=7\/b=11 then(a.pO c λd=>{d with jg:=-1},0)
 else if b=8 then(a.pO c λd=>{d with fO:=m6 d.fO f},0)
 else if b=9 then(a.pO c λd=>{d with fO:=d.fO.filter λi=> !decide (i=f)},0)
 else if b=12 then({a with tx:=f},0)
 else if b=13 then({a with tx:=-1},0)
 else if b=14 then(a.pf f λe=>{e with atomic:=true},0)
 else if b=15 then(a.pf f λe=>{e with atomic:=false},0)
 else if b=16 then((a.pO ((qB g.iL c).getD default).kU λd=>{d with jg:=-1}).pf f λe=>{e with je:=3,cond:=c},0)
 else if b=17 then((a.pO ((qB g.iL c).getD default).kU λd=>{d with jg:=f}).pf f λe=>{e with je:=2,cond:=0},0)
 else if b=18 then(if ji c a.ee 0=[]then(a,-1)else(a.pf (xW c h a.ee) (kV 4),xW c h a.ee))
 else if b=19 then({a with ee:=a.ee.map λe=>if e.je=3/\e.cond=c then kV 4 e else e},(ji c a.ee 0).length)
 else if b=20 then(a.pf c (kV 1),0)
 else if b=22 then({a with done:=a.done.set c.toNat true},0)
 else(a,0)
def Mi(a:List Int):Prop:=a.Pairwise (· < ·)
def gY.Cx(b:gY):Prop:=∀a∈b.fI,Mi a.fO
def F1{a:List Int}{c b:Int}(h:b∈m6 a c):b∈a\/b=c:=by
 induction a with
 |nil=>simp[m6]at h;exact .inr h
 |cons e a d=>
  unfold m6 at h;split at h
  ·rcases List.mem_cons.1 h with rfl|h
   ·exact .inl G
   ·rcases d h with h|h
    ·exact .inl (by simp[h])
    ·exact .inr h
  ·split at h
   ·exact .inl h
   ·rcases List.mem_cons.1 h with rfl|h
    ·exact .inr rfl
    ·exact .inl h
def F3{b:List Int}(a:Mi b)(e:Int):Mi (m6 b e):=by
 induction b with
 |nil=>simp[m6,Mi]
 |cons f b d=>
  unfold Mi at*
  rw[dI]at a;unfold m6;split
  ·rw[dI];refine⟨λc hx=>?_,d a.2⟩;rcases F1 hx with hx|rfl
   ·exact a.1 c hx
   ·assumption
  ·split
   ·rw[dI];exact a
   ·rw[dI,dI];refine⟨λc hx=>?_,a⟩;rcases List.mem_cons.1 hx with rfl|hx
    ·omega
    ·have:=a.1 c hx;omega
def F2(a:List Int)(b:Int):(m6 a b).length<=a.length+1:=by
 induction a with
 |nil=>simp[m6]
 |cons d a c=>unfold m6;split<;>(try split)<;>simp<;>omega
def mem_modify{c:Type}{b:List c}{i:Nat}{g:c->c}{e:c}(h:e∈b.modify i g):e∈b\/∃f∈b,e=g f:=by
 have⟨j,a⟩:=List.mem_iff_getElem?.1 h;rw[cZ]at a;split at a
 ·cases d:b[j]? with
  |none=>rw[d]at a;simp at a
  |some f=>rw[d]at a;simp at a;exact .inr ⟨f,aC d,a.symm⟩
 ·exact .inl (aC (by simpa using a))
def Xg{b:gY}(d:b.Cx){h:Int}{c:fa->fa}(f:∀a∈b.fI,Mi (c a).fO):(b.pO h c).Cx:=by
 intro a hl;rcases mem_modify hl with e|⟨i,g,rfl⟩
 ·exact d a e
 ·exact f i g
def nL{e:Type}(b:e->Prop){a:Prop} [Decidable a]{c d:e}(f:a->b c)(g:¬a->b d):b (if a then c else d):=by
 split
 ·exact f (by assumption)
 ·exact g (by assumption)
def xR{P:gY×Int->Prop}{p:fy}{b:gY}{e m g q:Int}(p0:P (b,0))(p1:P (b,-1))(pt:∀h c d,P (b.pf h c,d))(f:∀h c,(∀a,(c a).fO=a.fO\/(c a).fO=m6 a.fO e\/(c a).fO=a.fO.filter λi=> !decide (i=e))->P (b.pO h c,0)/\∀l k,P ((b.pO h c).pf l k,0))
 (j:∀d,P ({b with tx:=d},0)) (o:∀c d,P ({b with ee:=b.ee.map c},d)) (n:∀d,P ({b with done:=b.done.set d true},0)):P (fZ p b e m g q):=by
 unfold fZ;refine nL P (λ_=>pt _ _ _) λ_=>?_;refine nL P (λ_=>pt _ _ _) λ_=>?_;refine nL P (λ_=>(f g (λa=>{a with jg:=e}) λ_=> .inl rfl).1) λ_=>?_;refine nL P (λ_=>(f g (λa=>{a with jg:=-1}) λ_=> .inl rfl).1) λ_=>?_;refine nL P (λ_=>(f g (λa=>{a with fO:=m6 a.fO e}) λ_=> .inr (.inl rfl)).1) λ_=>?_;refine nL P (λ_=>(f g (λa=>{a with fO:=a.fO.filter λi=> !decide (i=e)}) λ_=> .inr (.inr rfl)).1) λ_=>?_;refine nL P (λ_=>j _) λ_=>?_;refine nL P (λ_=>j _) λ_=>?_;refine nL P (λ_=>pt _ _ _) λ_=>?_;refine nL P (λ_=>pt _ _ _) λ_=>?_;refine nL P (λ_=>(f _ (λa=>{a with jg:=-1}) λ_=> .inl rfl).2 _ _) λ_=>?_;refine nL P (λ_=>(f _ (λa=>{a with jg:=e}) λ_=> .inl rfl).2 _ _) λ_=>?_;refine nL P (λ_=>nL P (λ_=>p1) λ_=>pt _ _ _) λ_=>?_;refine nL P (λ_=>o _ _) λ_=>?_;refine nL P (λ_=>pt _ _ _) λ_=>?_;exact nL P (λ_=>n _) λ_=>p0
def xQ{i:gY}(b:i.Cx)(m:fy)(g k l n:Int):(fZ m i g k l n).1.Cx:=by
 have j:∀(d:Int) (c:fa->fa),(∀a,(c a).fO=a.fO\/(c a).fO=m6 a.fO g\/(c a).fO=a.fO.filter λh=> !decide (h=g))->(i.pO d c).Cx:=λd c f=>Xg b λa hl=>by
  rcases f a with e|e|e<;>rw[e]
  ·exact b a hl
  ·exact F3 (b a hl) g
  ·exact(b a hl).filter _
 exact xR (P:=λh=>h.1.Cx) b b (λ_ _ _=>b) (λd c f=>⟨j d c f,λ_ _=>j d c f⟩) (λ_=>b) (λ_ _=>b) (λ_=>b)
def xP(f:fy)(a:gY)(e b c g:Int):(fZ f a e b c g).1.fI.length=a.fI.length/\(fZ f a e b c g).1.done.length=a.done.length/\(fZ f a e b c g).1.ee.length=a.ee.length:=
 xR (P:=λd=>d.1.fI.length=a.fI.length/\d.1.done.length=a.done.length/\d.1.ee.length=a.ee.length) ⟨rfl,rfl,rfl⟩ ⟨rfl,rfl,rfl⟩ (λ_ _ _=>by simp[gY.pf]) (λ_ _ _=>by simp[gY.pf,gY.pO]) (λ_=>⟨rfl,rfl,rfl⟩) (λ_ _=>by simp) (λ_=>by simp)
def Rk{a:List Int}{b:Int}(d:∀c∈a,c<b):m6 a b=a++[b]:=by
 induction a with
 |nil=>rfl
 |cons g a f=>unfold m6;rw[au (d g G),f λc e=>d c (by simp[e])];rfl
def Rl:∀(b a:List Int),Mi (a++b)->b.foldl m6 a=a++b:=by
 intro b;induction b with
 |nil=>intro a _;simp
 |cons c b h=>
  intro a e;have f:∀d∈a,d<c:=λd g=>(List.pairwise_append.1 e).2.2 d g c G;rw[List.foldl_cons,Rk f,h (a++[c]) (by simpa using e)];simp
def Qh{a:List Int}(c:Mi a)(b:Int): [b].foldl m6 (a.foldl m6 [])=m6 a b:=by
 rw[Rl a [] (by simpa using c)];rfl
def oc(b:fy)(a:gH):Bool:=mK b a.gu&&decide (a.cells.length=b.cells.length)&&decide (a.fH.length=b.fH.length)&&decide (a.count.length=b.ee.length)
def AP(b:Int):aa Int->List Int->Bool
 |_,[]=>true
 |p,a::c=> !(decide (a<1))&& !(decide (b<=a))&&(match p with|some d=> !(decide (a<=d))|none=>true)&&AP b (some a) c
def p7(b:gH)(a:fR):Bool:=
 if a.fh=3 then(match qB b.cells a.obj with|some c=>decide (a.value=c)|none=>false)
 else if a.fh=23 then(match qB b.fH a.obj with|some c=>decide (a.value=c)|none=>false)
 else if a.fh=5 then decide (a.value=0)||decide (a.value=1)
 else if a.fh=4\/a.fh=22 then true
 else if a.fh=18 then(if ji a.obj b.gu.ee 0=[]then decide (a.value=-1)else decide (0<=a.value)&&decide (a.value<b.gu.ee.length)&&decide (a.value∈ji a.obj b.gu.ee 0))
 else if a.fh=19 then decide (a.value=(ji a.obj b.gu.ee 0).length)
 else decide (a.value=0)
def Du(d c:Int):List fR->Nat->Bool->Bool
 | [],_,a=>a
 |e::f,b,a=>if e.eJ=d then Du d c f (b+1) (a||(decide ((b:Int)=c)&&(decide (e.fh=3)||decide (e.fh=23))))else Du d c f b a
def yv(a:List fR)(d:Int)(c:List Int):Bool:=c.all λb=>Du d b a 0 false
def HG(c:Int):∀(a:List ei) (b:Nat),(ji c a b).length<=a.length:=by
 intro a;induction a with
 |nil=>intro b;simp[ji]
 |cons e a d=>intro b;rw[ji];have:=d (b+1);split<;>simp<;>omega
def vf(a:fR):Bool:=decide (a.fh=3)||decide (a.fh=4)
def oe(a b:fR):Bool:=vf a&&vf b&&decide (a.obj=b.obj)&&(decide (a.fh=4)||decide (b.fh=4))
def tJ(a:Int):Bool:=decide (a=6)||decide (a=8)||decide (a=10)||decide (a=17)||decide (a=21)
def kS(b:List fR)(a:Int):fR:=(qB b a).getD default
def nJ(a:List Int)(b:Int)(c:Nat):Int:=match a with
 | []=>-1
 |x::a=>if x=b then c else nJ a b (c+1)
def Fs{c:Int}:∀{a:List Int} {b:Nat},0<=nJ a c b↔c∈a:=by
 intro a;induction a with
 |nil=>intro b;simp[nJ]
 |cons e a d=>intro b;unfold nJ;grind
structure GX where
 w:fy
 ev:List fR
 st:List gY
def GX.e(b:GX)(a:Int):fR:=kS b.ev a
def GX.s(b:GX)(a:Int):gY:=(qB b.st a).getD default
def GX.X2(d:GX)(a b:Int)(c:fR->Bool):Bool:=((d.ev.drop a.toNat).take (b-a).toNat).all c
def GX.A7(a:GX)(c b:Int):Bool:=
 if(a.e b).eJ=(a.e c).eJ then false
 else if(a.e b).fh=6\/(a.e b).fh=10 then decide ((kl (a.s c) (a.e b).obj).jg=(a.e c).eJ)||decide ((a.e c).eJ∈(kl (a.s c) (a.e b).obj).fO)
 else if(a.e b).fh=8 then decide ((kl (a.s c) (a.e b).obj).jg=(a.e c).eJ)
 else if(a.e b).fh=17 then decide ((pT a.w (a.s c) (a.e b).obj).jg=(a.e c).eJ)
 else if(a.e b).fh=21 then decide ((a.e b).obj=(a.e c).eJ)
 else false
def GX.tS(b:GX)(a c:Int):Bool:=tJ (b.e a).fh&&b.A7 a c
def GX.RF{b:GX}{j a:Int}(c:b.A7 j a=true):tJ (b.e a).fh=true:=by
 unfold GX.A7 at c;unfold tJ;by_cases h:(b.e a).fh=6
 ·simp[h]
 by_cases d:(b.e a).fh=10
 ·simp[d]
 by_cases i:(b.e a).fh=8
 ·simp[i]
 by_cases f:(b.e a).fh=17
 ·simp[f]
 by_cases g:(b.e a).fh=21
 ·simp[g]
 simp[h,d,i,f,g]at c
def GX.J8(c:GX)(d:Int->Int->Bool)(a:List Int):Bool:=
 decide (2<=a.length)&&decide (a.length<=4)&&(a.all λb=>ju b c.ev.length)&&(List.range a.length).all λb=>
  !decide (a.getD b 0<a.getD 0 0)&&d (a.getD ((b+1)% a.length) 0) (a.getD b 0)&&(List.range b).all λf=> !decide ((c.e (a.getD b 0)).eJ=(c.e (a.getD f 0)).eJ)
def GX.UK(e:GX)(d:List Int):e.J8 e.tS d=e.J8 e.A7 d:=by
 unfold GX.J8;by_cases hl:2<=d.length;rotate_left
 ·simp[hl]
 congr 1;rw[bJ,cg,cg];constructor
 ·intro a c f;have:=a c f;simp only[az,GX.tS]at this|-;exact⟨⟨this.1.1,this.1.2.2⟩,this.2⟩
 ·intro a c f;have b:=a c f;have g:=a ((c+1)% d.length) (by rw[dy];exact Nat.mod_lt _ B);simp only[az,GX.tS]at b g|-;exact⟨⟨b.1.1,GX.RF g.1.2,b.1.2⟩,b.2⟩
def GX.dead(g:GX)(f:Int->Int->Bool)(e:jm):Bool:=decide (e.a=0)&&decide (e.b=0)&&decide (e.c=0)&&decide (e.d=0)&&g.J8 f e.jz
def GX.rac(a:GX)(b c:Int):Bool:=decide (b<c)&& !decide ((a.e b).eJ=(a.e c).eJ)&&oe (a.e b) (a.e c)&& !((qB a.w.cells (a.e b).obj).getD default).wx
def GX.Zl(a:GX)(b c:Int):Bool:=
 decide (c<b)&&(decide ((a.e b).fh=18)||decide ((a.e b).fh=19))&&decide ((a.e c).fh=16)&&decide ((a.e b).obj=(a.e c).obj)&& !decide ((a.e b).eJ=(a.e c).eJ)&&
  a.X2 (c+1) b (λd=> !decide (d.eJ=(a.e c).eJ))&&decide ((j2 (a.s b) (a.e c).eJ).je=3)&&(decide ((a.e b).fh=19)||decide ((a.e b).value=(a.e c).eJ))
def GX.Ec(b:Int)(a:fR):Bool:= !(decide (a.eJ=b)&&decide (a.fh=15))
def GX.L6(b:GX)(a c:Int):Bool:=
 decide (a<c)&&decide ((b.e c).eJ=(b.e a).eJ)&&(j2 (b.s a) (b.e a).eJ).atomic&&b.X2 (a+1) c (GX.Ec (b.e a).eJ)
def GX.brk(a:GX)(d f b c:Int):Bool:=
 decide (b<=c)&&decide ((a.e b).eJ=(a.e c).eJ)&& !decide ((a.e b).eJ=(a.e d).eJ)&&oe (a.e d) (a.e b)&&oe (a.e c) (a.e f)
def GX.Vj(a:GX)(b c d f:Int):Bool:=
 decide (b<c)&&decide (d<=f)&&decide ((a.e b).eJ=(a.e c).eJ)&&decide ((a.e d).eJ=(a.e f).eJ)&& !decide ((a.e b).eJ=(a.e d).eJ)&&oe (a.e b) (a.e d)&&oe (a.e f) (a.e c)&&
  a.X2 b c (GX.Ec (a.e b).eJ)&&(j2 (a.s b) (a.e b).eJ).atomic
def GX.zJ(b:GX)(a:Int):Bool:=ju a b.ev.length
def GX.vR(f:GX)(e:jm):Bool:=
 if e.fh=2 then f.dead f.A7 e
 else if(f.zJ e.a&&f.zJ e.b&&f.zJ e.c&&f.zJ e.d)=true then
  (
   if e.fh=1 then decide (e.c=0)&&decide (e.d=0)&&decide (e.jz=[])&&f.rac e.a e.b
   else if e.fh=3 then decide (e.c=0)&&decide (e.d=0)&&decide (e.jz=[])&&f.Zl e.a e.b
   else if e.fh=4 then decide (e.jz=[])&&f.Vj e.a e.b e.c e.d
   else false)
 else false
def GX.vG(f:GX)(e:jm):Bool:=
 if e.fh=1 then decide (e.c=0)&&decide (e.d=0)&&decide (e.jz=[])&&(f.zJ e.a&&f.zJ e.b)&&f.rac e.a e.b
 else if e.fh=2 then f.dead f.tS e
 else if e.fh=3 then decide (e.c=0)&&decide (e.d=0)&&decide (e.jz=[])&&(f.zJ e.a&&f.zJ e.b)&&f.Zl e.a e.b
 else if e.fh=4 then decide (e.jz=[])&&(f.zJ e.a&&f.zJ e.b&&f.zJ e.c&&f.zJ e.d)&&f.L6 e.a e.b&&f.brk e.a e.b e.c e.d
 else false
def GX.in0{a:GX}{b:Int}(c:a.zJ b=true):a.zJ 0=true:=by
 unfold GX.zJ at*
 rw[fQ]at*
 omega
def GX.abL{b:GX}{a c g r:Int}(u:b.zJ a=true):(b.L6 a c&&b.brk a c g r)=b.Vj a c g r:=by
 have w:oe (b.e a) (b.e g)=true->a<c->b.X2 a c (GX.Ec (b.e a).eJ)=b.X2 (a+1) c (GX.Ec (b.e a).eJ):=by
  intro d q;have⟨t,f⟩:=fQ.1 u;unfold GX.X2;have s:b.ev.drop a.toNat=b.e a::b.ev.drop (a+1).toNat:=by
   rw[show(a+1).toNat=a.toNat+1 by omega,aJ f];congr 1;unfold GX.e kS qB;rw[au t];simp[f]
  rw[s,show(c-a).toNat=(c-(a+1)).toNat+1 by omega,List.take_succ_cons,cA];have v:GX.Ec (b.e a).eJ (b.e a)=true:=by
   unfold GX.Ec;unfold oe vf at d;simp only[az,cu,aM]at d;rcases d.1.1.1 with h|h<;>simp[h]
  rw[v,bm]
 unfold GX.L6 GX.brk GX.Vj;by_cases d:oe (b.e a) (b.e g)=true
 ·by_cases q:a<c
  ·rw[w d q];rw[bJ];simp only[az,aM,cq,cv];constructor
   ·rintro⟨⟨⟨⟨f,i⟩,j⟩,k⟩,⟨⟨⟨l,m⟩,n⟩,o⟩,p⟩;exact⟨⟨⟨⟨⟨⟨⟨⟨f,l⟩,i.symm⟩,m⟩,λh=>n h.symm⟩,o⟩,p⟩,k⟩,j⟩
   ·rintro⟨⟨⟨⟨⟨⟨⟨⟨f,l⟩,i⟩,m⟩,n⟩,o⟩,p⟩,k⟩,j⟩;exact⟨⟨⟨⟨f,i.symm⟩,j⟩,k⟩,⟨⟨⟨l,m⟩,λh=>n h.symm⟩,o⟩,p⟩
  ·simp[q]
 ·rw[Bool.not_eq_true]at d;simp[d]
def GX.V1(f:GX)(e:jm):f.vG e=f.vR e:=by
 unfold GX.vG GX.vR;by_cases g:e.fh=1
 ·rw[au g,Z B,au g];by_cases j:e.c=0;rotate_left
  ·simp[j]
  by_cases k:e.d=0;rotate_left
  ·simp[k]
  rw[j,k];cases i:f.zJ e.a with
  |false=>simp
  |true=>rw[GX.in0 i];cases f.zJ e.b<;>simp
 rw[Z g];by_cases l:e.fh=2
 ·rw[au l,au l];unfold GX.dead;rw[GX.UK]
 rw[Z l,Z l];by_cases h:e.fh=3
 ·rw[au h,Z g,au h];by_cases j:e.c=0;rotate_left
  ·simp[j]
  by_cases k:e.d=0;rotate_left
  ·simp[k]
  rw[j,k];cases i:f.zJ e.a with
  |false=>simp
  |true=>rw[GX.in0 i];cases f.zJ e.b<;>simp
 rw[Z h];by_cases m:e.fh=4
 ·rw[au m,Z g,Z h,au m];cases i:f.zJ e.a with
  |false=>simp
  |true=>
   rw[<-GX.abL i];cases (f.zJ e.b)<;>cases f.zJ e.c<;>cases f.zJ e.d<;>simp[Bool.and_assoc]
 rw[Z m,Z g,Z h,Z m];simp
def gC(a:List Int):jm:=⟨2,0,0,0,0,a⟩
def ku(a b:Nat):List Nat:=List.range' a (b-a)
def Ez(d:Nat)(b:List Int->Bool)(go:List Int->Int->Bool):Nat->List Int->List (List Int)
 |0,a=>if b a=true then [a]else []
 |k+1,a=>(if b a=true then [a]else [])++(ku ((a.getD 0 0).toNat+1) d).flatMap λ(c:Nat)=>if go a c=true then Ez d b go k (a++[(c:Int)])else []
def Pq{k:Nat}{e:List Int->Bool}{go:List Int->Int->Bool}:∀(b:Nat) (c a:List Int),a∈Ez k e go b c->e a=true/\∃d,a=c++d:=by
 intro b;induction b with
 |zero=>
  intro c a h;unfold Ez at h;split at h
  ·simp at h;subst h;exact⟨by assumption,[],G⟩
  ·simp at h
 |succ b i=>
  intro c a h;unfold Ez at h;rw[dc]at h;rcases h with h|h
  ·split at h
   ·simp at h;subst h;exact⟨by assumption,[],G⟩
   ·simp at h
  ·rw[cI]at h;obtain⟨j,_,h⟩:=h;split at h
   ·have⟨f,d,g⟩:=i _ _ h;exact⟨f,(j:Int)::d,by rw[g];simp⟩
   ·simp at h
def Pr{n:Nat}{ok:List Int->Bool}{go:List Int->Int->Bool}(g:∀(a e:List Int) (b:Int),ok (a++b::e)=true->go a b=true):∀(c:Nat) (a:List Int),Ez n ok go c a=Ez n ok (λ_ _=>true) c a:=by
 intro c;induction c with
 |zero=>intro a;rfl
 |succ c i=>
  intro a;unfold Ez;congr 1;congr 1;funext b;rw[au rfl,<-i];by_cases d:go a b=true
  ·rw[au d]
  ·rw[Z d];symm;rw[List.eq_nil_iff_forall_not_mem];intro j h;obtain⟨f,e,rfl⟩:=Pq _ _ _ h;exact d (g a e b (by simpa using f))
def abh{c:Nat}{a b:List Int->Bool}{go:List Int->Int->Bool}(e:∀d,a d=b d):Ez c a go=Ez c b go:=by
 rw[show a=b from funext e]
def qu(a:List Int):Int:=a.getD (a.length-1) 0
def GX.LO{o:GX}{h:Int->Int->Bool}{a d:List Int}{b:Int}(n:a≠ [])(e:o.J8 h (a++b::d)=true):h b (qu a)=true/\b∉a:=by
 unfold GX.J8 at e;simp only[az,cg]at e;have p:0<a.length:=List.length_pos_iff.2 n;have g:(a++b::d).length=a.length+1+d.length:=dR;have i:(a++b::d).getD a.length 0=b:=by simp[List.getD]
 refine⟨?_,λm=>?_⟩
 ·have c:=(e.2 (a.length-1) (by rw[dy,g];omega)).1.2;rw[show a.length-1+1=a.length by omega,Nat.mod_eq_of_lt (by rw[g];omega),i]at c;have f:(a++b::d).getD (a.length-1) 0=qu a:=by
   unfold qu;simp[List.getD,cK (show a.length-1<a.length by omega)]
  rwa[f]at c
 ·have⟨k,j,l⟩:=List.getElem_of_mem m;have c:=(e.2 a.length (by rw[dy,g];omega)).2 k (by rw[dy];omega);rw[i]at c;have f:(a++b::d).getD k 0=b:=by
   simp only[List.getD,cK j,aB j,l,dB]
  rw[f]at c;simp at c
def GX.Rx(b:GX)(d:Nat):List (List Int):=Ez b.ev.length (λa=>b.vR (gC a)) (λa c=> !decide (c∈a)&&b.A7 c (qu a)) 3 [(d:Int)]
def GX.NU(b:GX)(c:Nat):List (List Int):=Ez b.ev.length (λa=>decide (2<=a.length)&&b.vG (gC a)) (λa d=>b.tS d (qu a)) 3 [(c:Int)]
def GX.ZR(a:GX)(b:List Int):a.vR (gC b)=a.J8 a.A7 b:=by
 unfold GX.vR GX.dead gC;simp
def UG{d:Nat}{e:List Int->Bool}{go go':List Int->Int->Bool}(f:∀(a:List Int) (b:Int),a≠ []->go a b=go' a b):∀(c:Nat) (a:List Int),a≠ []->Ez d e go c a=Ez d e go' c a:=by
 intro c;induction c with
 |zero=>intro a _;rfl
 |succ c h=>
  intro a g;unfold Ez;congr 1;congr 1;funext b;rw[f a b g,h (a++[(b:Int)]) G]
def GX.UJ(b:GX)(g:Nat):b.NU g=b.Rx g:=by
 unfold GX.NU GX.Rx;have j:∀a,(decide (2<=a.length)&&b.vG (gC a))=b.vR (gC a):=by
  intro a;rw[GX.V1,GX.ZR];by_cases d:2<=a.length
  ·simp[d]
  ·unfold GX.J8;simp[d]
 rw[abh j];have h:=Pr (n:=b.ev.length) (ok:=λa=>b.vR (gC a)) (go:=λa f=>decide (a=[])||b.tS f (qu a)) (λa m f d=>by
  by_cases c:a=[]
  ·simp[c]
  ·rw[GX.ZR,<-GX.UK]at d;simp[(GX.LO c d).1]) 3 [(g:Int)]
 have i:=Pr (n:=b.ev.length) (ok:=λa=>b.vR (gC a)) (go:=λa e=>decide (a=[])||(!decide (e∈a)&&b.A7 e (qu a))) (λa m f d=>by
  by_cases c:a=[]
  ·simp[c]
  ·rw[GX.ZR]at d;have⟨k,l⟩:=GX.LO c d;simp[k,l]) 3 [(g:Int)]
 rw[UG (go':=λa f=>decide (a=[])||b.tS f (qu a)) (λa f c=>by simp[c]) 3 _ G,
  UG (go:=λa e=> !decide (e∈a)&&b.A7 e (qu a)) (go':=λa e=>decide (a=[])||(!decide (e∈a)&&b.A7 e (qu a))) (λa f c=>by simp[c]) 3 _ G,h,i]
def GX.n(a:GX):Nat:=a.ev.length
def kH(b:jm->Bool)(a:jm):List jm:=if b a=true then [a]else []
def gR(a b:Nat):jm:=⟨1,a,b,0,0,[]⟩
def gL(a b:Nat):jm:=⟨3,a,b,0,0,[]⟩
def gA(a b c d:Nat):jm:=⟨4,a,b,c,d,[]⟩
def GX.FU(a:GX):List jm:=
 ((List.range a.n).flatMap λ(b:Nat)=>(List.range a.n).flatMap λ(c:Nat)=>kH a.vR (gR b c))++
 ((List.range a.n).flatMap λ(b:Nat)=>(a.Rx b).map gC)++
 ((List.range a.n).flatMap λ(b:Nat)=>(List.range a.n).flatMap λ(c:Nat)=>kH a.vR (gL b c))++
 ((
  List.range a.n).flatMap λ(b:Nat)=>(ku (b+1) a.n).flatMap λ(c:Nat)=>
  if(a.e b).eJ=(a.e c).eJ/\vf (a.e b)=true/\vf (a.e c)=true then(List.range a.n).flatMap λ(d:Nat)=>(ku d a.n).flatMap λ(f:Nat)=>kH a.vR (gA b c d f)else [])
def GX.rk(a:GX):List jm:=
 ((List.range a.n).flatMap λ(b:Nat)=>(ku (b+1) a.n).flatMap λ(c:Nat)=>kH a.vG (gR b c))++
 ((List.range a.n).flatMap λ(b:Nat)=>(a.NU b).map gC)++
 ((List.range a.n).flatMap λ(b:Nat)=>(List.range b).flatMap λ(c:Nat)=>kH a.vG (gL b c))++
 ((
  List.range a.n).flatMap λ(b:Nat)=>(ku (b+1) a.n).flatMap λ(c:Nat)=>
  if a.L6 b c=true then(List.range a.n).flatMap λ(d:Nat)=>(ku d a.n).flatMap λ(e:Nat)=>kH a.vG (gA b c d e)else [])
def Dx{a b:Nat}(c:a<=b):List.range b=List.range a++List.range' a (b-a):=by
 rw[List.range_eq_range',List.range_eq_range',show b=a+(b-a)by omega,<-List.range'_append_1];simp
def uo{b e:Type}{l:List b}{a:b->List e}(c:∀d∈l,a d=[]):l.flatMap a=[]:=by
 rw[List.flatMap_eq_nil_iff];exact c
def o8{f j:Type}{a:List f}{c d:f->List j}(e:∀b∈a,c b=d b):a.flatMap c=a.flatMap d:=by
 induction a with
 |nil=>rfl
 |cons b a h=>simp only[bD];rw[e b G,h λi g=>e i (by simp[g])]
def GX.I6(a:GX):a.rk=a.FU:=by
 have p:a.vG=a.vR:=funext a.V1;unfold GX.rk GX.FU;rw[p];congr 1
 ·congr 1
  ·congr 1
   ·refine o8 λb h=>?_;rw[dy]at h;rw[Dx (show b+1<=a.n by omega),dJ];rw[uo (l:=List.range (b+1)),cQ];rfl;intro d i;rw[dy]at i;unfold kH;rw[Z];unfold GX.vR gR GX.rac;have:¬((b:Int)<d):=B;simp[this]
   ·exact o8 λb h=>by rw[GX.UJ]
  ·refine o8 λb h=>?_;rw[dy]at h;rw[Dx (show b<=a.n by omega),dJ,uo (l:=List.range' b (a.n-b)),bG];intro d i;rw[List.mem_range'_1]at i;unfold kH;rw[Z];unfold GX.vR gL GX.Zl;have:¬((d:Int)<b):=B;simp[this]
 ·refine o8 λb h=>o8 λd i=>?_;have none:∀{m:Prop},(∀f g,a.vR (gA b d f g)=true->m)->¬m->((List.range a.n).flatMap λ(f:Nat)=>(ku f a.n).flatMap λ(g:Nat)=>kH a.vR (gA b d f g))=[]:=by
   intro m c o;refine uo λf _=>uo λg _=>?_;unfold kH;exact Z λq=>o (c f g q)
  by_cases j:a.L6 b d=true
  ·rw[au j];by_cases k:(a.e b).eJ=(a.e d).eJ/\vf (a.e b)=true/\vf (a.e d)=true
   ·rw[au k]
   ·rw[Z k];refine none (λf g c=>?_) k;unfold GX.vR gA at c;simp only[show¬((4:Int)=2)by omega,show¬((4:Int)=1)by omega,show¬((4:Int)=3)by omega,br,bw]at c;split at c
    ·unfold GX.Vj oe at c;simp only[az,aM]at c;obtain⟨_,⟨⟨⟨⟨⟨⟨⟨_,_⟩,r⟩,_⟩,_⟩,s⟩,t⟩,_⟩,_⟩:=c;exact⟨r,s.1.1.1,t.1.1.2⟩
    ·simp at c
  ·rw[Z j];split
   ·symm;refine none (λf g c=>?_) j;rw[<-GX.V1]at c;unfold GX.vG gA at c;simp only[show¬((4:Int)=2)by omega,show¬((4:Int)=1)by omega,show¬((4:Int)=3)by omega,br,bw]at c;simp only[az]at c;exact c.1.2
   ·rfl
section
def mr(a:fR):Int:=if a.fh=18 then a.value else-1
def vn(b:fy)(a:fR):Bool:=if a.fh=1\/a.fh=2 then decide (a.jY=-1)else(match qB b.jy a.jY with|some c=>decide (c.eJ=a.eJ)|none=>false)
def sizeOf(b:fy)(a:Int):Int:=((qB b.cells a).getD default).size
def Ps(b:fy)(a:fR):Bool:=decide (a.nQ=[])||decide (a.fh=5)||(vf a&& !decide (sizeOf b a.obj=0))
def Pj(a:fR):Bool:=decide (a.wm=[])||decide (a.fh=4)||decide (a.fh=22)
def rO(c:fy)(b:gH)(a:fR):Bool:=
 oc c b&&ju a.eJ c.ee.length&&(decide (1<=a.fh)&&decide (a.fh<=23))&&iV c b.gu a.eJ a.fh a.obj&&vn c a&&Ps c a&&Pj a&&
  AP (b.count.getD a.eJ.toNat 0) none a.nQ&&AP (b.count.getD a.eJ.toNat 0) none a.wm&&p7 b a
def li(c:fy)(b:gH)(a:fR):gH:=
 ⟨(fZ c b.gu a.eJ a.fh a.obj (mr a)).1,if a.fh=4 then b.cells.set a.obj.toNat a.value else b.cells,if a.fh=22 then b.fH.set a.obj.toNat a.value else b.fH,b.count.modify a.eJ.toNat (· +1)⟩
def v8:gH:=⟨⟨[],0,[],[]⟩,[],[],[]⟩
def kz(c:fy)(b:gH)(a:fR):gH×Bool:=if rO c b a=true then(li c b a,true)else(v8,false)
section
variable {S E:Type}
def rj(ok:S->E->Bool)(nx:S->E->S):S->List E->Bool
 |_,[]=>true
 |s,a::b=>ok s a&&rj ok nx (nx s a) b
def xe(nx:S->E->S):S->List E->List S
 |_,[]=>[]
 |s,a::b=>s::xe nx (nx s a) b
def yg(go:S->E->S):S->List E->S
 |s,[]=>s
 |s,a::b=>yg go (go s a) b
def Yb{a:Type}(d:a->E->Bool)(b:a->E->a):a->List E->aa (List a)
 |_,[]=>some []
 |s,c::e=>if d s c=true then(Yb d b (b s c) e).map (s:: ·)else none
variable {ok:S->E->Bool}{nx go:S->E->S}
def MG:∀(a:List E) (b:S),(xe nx b a).length=a.length:=by
 intro a;induction a with
 |nil=>intro b;rfl
 |cons d a c=>intro b;simp[xe,c]
def Qv(f:∀a b,ok a b=true->go a b=nx a b):∀(c d:List E) (a:S),rj ok nx a (c++d)=(rj ok nx a c&&rj ok nx (yg go a c) d):=by
 intro c;induction c with
 |nil=>intro d a;simp[rj,yg]
 |cons b c g=>
  intro d a;simp only[cJ,rj,yg];cases e:ok a b with
  |true=>rw[g,f a b e,bm,bm]
  |false=>simp
def GS:∀(a b:List E) (c:S),yg go c (a++b)=yg go (yg go c a) b:=by
 intro a;induction a with
 |nil=>intro b c;rfl
 |cons e a d=>intro b c;simp only[cJ,yg,d]
def MH(g:∀a d,ok a d=true->go a d=nx a d):∀(c:List E) (a:S) (b:Nat),rj ok nx a c=true->b<c.length->(xe nx a c)[b]? =some (yg go a (c.take b)):=by
 intro c;induction c with
 |nil=>intro a b _ f;simp at f
 |cons d c h=>
  intro a b e f;simp only[rj,az]at e;cases b with
  |zero=>simp[xe,yg]
  |succ b=>
   simp only[xe,dF,List.take_succ_cons,yg];rw[g a d e.1];exact h _ b e.2 (by simpa using f)
def Su(g:∀b a,ok b a=true->go b a=nx b a):∀(d:List E) (b:S) (c:Nat) (a:E),rj ok nx b d=true->d[c]? =some a->ok (yg go b (d.take c)) a=true:=by
 intro d;induction d with
 |nil=>intro b c a _ e;simp at e
 |cons i d h=>
  intro b c a f e;simp only[rj,az]at f;cases c with
  |zero=>simp at e;subst e;simpa[yg]using f.1
  |succ c=>
   simp only[List.take_succ_cons,yg];rw[g b i f.1];exact h _ c a f.2 (by simpa using e)
def RL{d:Type}{g:d->E->Bool}{f:d->E->d}{pr:S->d}(h:∀a b,ok a b=true->g (pr a) b=true)(i:∀a b,pr (nx a b)=f (pr a) b):∀(c:List E) (a:S),rj ok nx a c=true->Yb g f (pr a) c=some ((xe nx a c).map pr):=by
 intro c;induction c with
 |nil=>intro a _;rfl
 |cons b c j=>
  intro a e;simp only[rj,az]at e;simp only[Yb,xe,aO];rw[au (h a b e.1),<-i,j _ e.2];rfl
def Vx{I:S->Prop}(e:∀a c,I a->I (go a c)):∀(b:List E) (a:S),I a->I (yg go a b):=by
 intro b;induction b with
 |nil=>intro a d;exact d
 |cons c b f=>intro a d;exact f _ (e a c d)
end
def runs(a:fy):gH->List fR->Bool:=rj (rO a) (li a)
def OG(a:fy):gH->List fR->List gH:=xe (li a)
def r9(w:fy):gH->List fR->gH:=yg λb a=>(kz w b a).1
def rD{c:fy}(b:gH)(a:fR)(d:rO c b a=true):(kz c b a).1=li c b a:=by unfold kz;rw[au d]
def Qq(c:fy)(a:List fR)(b:gH):(OG c b a).length=a.length:=MG a b
def E2(b:fy)(c d:List fR)(a:gH):runs b a (c++d)=(runs b a c&&runs b (r9 b a c) d):=Qv (go:=λa e=>(kz b a e).1) rD c d a
def zf{e:fy}{a:List fR}{d:gH}(b:runs e d a=true)(c:Nat):runs e d (a.take c)=true:=by
 rw[<-df c a,E2,az]at b;exact b.1
def Ss{c:fy}{a:List fR}{f:gH}(d:runs c f a=true)(b e:Nat):runs c (r9 c f (a.take b)) ((a.drop b).take e)=true:=by
 rw[<-df b a,E2,az]at d;exact zf d.2 e
def Qr{d:fy}(b:List fR)(a:gH)(c:Nat)(f:runs d a b=true)(g:c<b.length):(OG d a b)[c]? =some (r9 d a (b.take c)):=MH (go:=λa e=>(kz d a e).1) rD b a c f g
def Wg{d:fy}(c:List fR)(b:gH)(e:Nat)(a:fR)(f:runs d b c=true)(g:c[e]? =some a):rO d (r9 d b (c.take e)) a=true:=Su (go:=λb a=>(kz d b a).1) rD c b e a f g
def oF{c:fy}{d:gH}{a:fR}(b:rO c d a=true):oc c d=true/\ju a.eJ c.ee.length=true/\iV c d.gu a.eJ a.fh a.obj=true:=by
 unfold rO at b;simp only[az]at b;exact⟨b.1.1.1.1.1.1.1.1.1,b.1.1.1.1.1.1.1.1.2,b.1.1.1.1.1.1.2⟩
def ana(c:fy):gY->List fR->aa (List gY):=Yb (λb a=>iV c b a.eJ a.fh a.obj) λb a=>(fZ c b a.eJ a.fh a.obj (mr a)).1
def Vr{c:fy}(b:List fR)(a:gH)(d:runs c a b=true):ana c a.gu b=some ((OG c a b).map gH.gu):=
 RL (pr:=gH.gu) (λa f e=>(oF e).2.2) (λ_ _=>rfl) b a d
structure yc(w:fg):Prop where
 len:w.ej.length<=16
 pf:w.fM.ee.length<=4
 run:runs w.fM w.ka w.ej=true
 Cx:w.ka.gu.Cx
def fg.gx(c:fg):GX:=⟨c.fM,c.ej,(OG c.fM c.ka c.ej).map gH.gu⟩
def yc.ok{a:fg}(b:yc a){i:Nat}{e:fR}(c:a.ej[i]? =some e):rO a.fM (r9 a.fM a.ka (a.ej.take i)) e=true:=Wg _ _ _ _ b.run c
def yc.st{a:fg}(c:yc a){b:Nat}(d:b<a.ej.length):a.gx.st[b]? =some (r9 a.fM a.ka (a.ej.take b)).gu:=by
 unfold fg.gx;rw[aR,Qr _ _ _ c.run d];rfl
def yc.e{a:fg}(d:yc a){i:Int}(g:ju i a.ej.length=true):∃e,a.ej[i.toNat]? =some e/\a.gx.e i=e/\ju e.eJ a.fM.ee.length=true/\j8 a.fM e.fh e.obj=true:=by
 have⟨f,b⟩:=fQ.1 g;refine⟨a.ej[i.toNat],by simp[b],?_,?_⟩
 ·unfold GX.e kS qB fg.gx;rw[au f];simp[b]
 ·have:=d.ok (i:=i.toNat) (e:=a.ej[i.toNat]) (by simp[b]);have⟨_,h,c⟩:=oF this;refine⟨h,?_⟩;unfold iV at c;simp only[az]at c;exact c.1.2
def yc.s{a:fg}(c:yc a){i:Int}(g:ju i a.ej.length=true):a.gx.s i=(r9 a.fM a.ka (a.ej.take i.toNat)).gu/\mK a.fM (a.gx.s i)=true:=by
 have⟨f,d⟩:=fQ.1 g;have h:=c.st d;have b:a.gx.s i=(r9 a.fM a.ka (a.ej.take i.toNat)).gu:=by
  unfold GX.s qB;rw[au f,h];rfl
 refine⟨b,?_⟩;rw[b];have:=(oF (c.ok (i:=i.toNat) (e:=a.ej[i.toNat]) (by simp[d]))).1;unfold oc at this;simp only[az]at this;exact this.1.1.1
def MF{b:fy}{a:gH}{c:fR}(d:a.gu.Cx):(kz b a c).1.gu.Cx:=by
 unfold kz;split
 ·exact xQ d b _ _ _ _
 ·intro e hl;simp[v8]at hl
def Yd{d:fy}(c:List fR)(a:gH)(b:a.gu.Cx):(r9 d a c).gu.Cx:=Vx (I:=λa=>a.gu.Cx) (λ_ _ b=>MF b) c a b
def mO(a:fy):gY:=⟨a.fI.map λ_=>⟨-1,[]⟩,-1,a.fH.map λ_=>false,(List.range a.ee.length).map λb=>⟨if b=0 then 1 else 0,0,false⟩⟩
def kA(a:fy):gH:=⟨mO a,a.cells.map iY.ka,a.fH.map λ_=>0,a.ee.map λ_=>0⟩
def vj(a:fy):(kA a).gu.Cx:=by
 intro b hl;unfold kA mO at hl;simp only[List.mem_map]at hl;obtain⟨_,_,rfl⟩:=hl;exact List.Pairwise.nil
def Ag(b:fy)(c:List fR)(d a:Nat):fg:=⟨b,a,r9 b (kA b) (c.take a),(c.drop a).take d⟩
def RZ{a:fy}{d:List fR}(e:runs a (kA a) d=true)(ht:a.ee.length<=4){b:Nat}(f:b<=16)(c:Nat):yc (Ag a d b c):=
 ⟨by simp[Ag];omega,ht,Ss e c b,Yd _ _ (vj a)⟩
end
def tZ(c:Int)(b:List Int):List fR->Nat->Int
 | [],_=>-1
 |e::d,a=>if e.eJ=c/\¬(a:Int)∈b then a else tZ c b d (a+1)
def xv(c:Int):List fR->Nat->Int->Int
 | [],_,_=>-1
 |e::d,a,b=>if e.eJ=c then(if b=0 then(a:Int)else xv c d (a+1) (IntKind.i64.wrap (b-1)))else xv c d (a+1) b
def ja(c:fg)(a:fT)(b:Int):Int:=tZ b a.order c.ej 0
def xZ(a:List Bool)(b:Int):Bool:=(qB a b).getD false
def AX(d:fg)(b:List Bool)(c first a:Int):Bool:=decide (a<first)||xZ b (xv c d.ej 0 (IntKind.i64.wrap (a-first)))
def oa(c:fg)(d:fT)(b:Int)(a:List Int):Bool:=match qB c.ka.count b with
 |some first=>a.all (AX c d.fixed b first)
 |none=>decide (a=[])
def jk(a:fg)(b:fT)(c:Int):Bool:=
 if ja a b c<0 then false
 else iV a.fM b.gu c (kS a.ej (ja a b c)).fh (kS a.ej (ja a b c)).obj&&oa a b c (kS a.ej (ja a b c)).nQ
def cont(a:Bool)(b:Int):im:=if a=true then⟨b,true⟩else⟨0,false⟩
def fixC(a:List im)(b c:Int):Bool:=decide (qB a b=some ⟨c,true⟩)
def ZL:fT:=⟨⟨[],0,[],[]⟩,[],[],[],[],[]⟩
def uS(e:fg)(b:fT)(c:Int)(a:fR)(d f:Int):fT:=
 ⟨
  (fZ e.fM b.gu d a.fh a.obj f).1,
  if a.fh=4 then b.cells.set a.obj.toNat (cont (oa e b d a.wm) a.value)else b.cells,
  if a.fh=22 then b.fH.set a.obj.toNat (cont (oa e b d a.wm) a.value)else b.fH,
  b.order++[c],
  if a.fh=3 then b.fixed.set c.toNat (fixC b.cells a.obj a.value)else if a.fh=23 then b.fixed.set c.toNat (fixC b.fH a.obj a.value)else b.fixed,
  if a.fh=18 then(if 0<=(fZ e.fM b.gu d a.fh a.obj f).2 then b.qA.set c.toNat 1 else b.qA)
   else if a.fh=19 then b.qA.set c.toNat (fZ e.fM b.gu d a.fh a.obj f).2 else b.qA⟩
def mF(b:fg)(c:fT)(a:iv):fT×Bool:=
 if jk b c a.eJ=true then(uS b c (ja b c a.eJ) (kS b.ej (ja b c a.eJ)) a.eJ a.ry,true)else(ZL,false)
def jI(a:fg):fT:=⟨a.ka.gu,a.ka.cells.map λb=>⟨b,true⟩,a.ka.fH.map λb=>⟨b,true⟩,[],List.replicate a.ej.length false,List.replicate a.ej.length 0⟩
def pV(a:fg)(b:fT)(c:Int):List Int:=
 if 0<=ja a b c/\(kS a.ej (ja a b c)).fh=18/\ji (kS a.ej (ja a b c)).obj b.gu.ee 0≠ []then ji (kS a.ej (ja a b c)).obj b.gu.ee 0 else [-1]
def nc(c:fg)(b:fT)(e:Nat):List iv:=(List.range e).flatMap λ(a:Nat)=>if jk c b a=true then(pV c b a).map λd=>⟨a,d⟩else []
def ml(a:fg):List Int->List iv->fT->List iv×fT
 | [],c,b=>(c,b)
 |n::d,c,b=>if nc a b a.fM.ee.length=[]then(c,b)
  else ml a d (c++[(nc a b a.fM.ee.length).getD (n% (nc a b a.fM.ee.length).length).toNat default]) (mF a b ((nc a b a.fM.ee.length).getD (n% (nc a b a.fM.ee.length).length).toNat default)).1
def Bm(b:fg):List iv->fT->aa fT
 | [],a=>some a
 |c::d,a=>if jk b a c.eJ=true then Bm b d (mF b a c).1 else none
def IM(a:fg)(c:fT)(b:Int):Bool:=decide (ja a c (kS a.ej b).eJ=b)&&jk a c (kS a.ej b).eJ
def place(a:fT)(b:Int):Int:=nJ a.order b 0
def J9(a:fT)(b:Int):Bool:=decide (qB a.qA b=some 0)
structure xU(N:Nat)(w:fg)(c:fT):Prop where
 fx:c.fixed.length=w.ej.length
 wk:c.qA.length=w.ej.length
 ce:w.ej≠ []->c.cells.length=w.fM.cells.length
 fu:w.ej≠ []->c.fH.length=w.fM.fH.length
 ft:w.ej≠ []->mK w.fM c.gu=true
 rd:∀l∈c.gu.fI,l.fO.length<=N
 Cx:c.gu.Cx
 od:c.order.length<=N
def allI{b:Type}(a:Nat->b->Bool):Nat->List b->Bool
 |_,[]=>true
 |k,d::c=>a k d&&allI a (k+1) c
def xy(a:Nat):Bool:=decide (97<=a/\a<=122)||decide (65<=a/\a<=90)
def Gw(a:Nat):Bool:=decide (48<=a/\a<=57)
def yP(a:Nat):Bool:=xy a||Gw a||decide (a=95)
def pz:List (List Nat):=[[118,97,114],[118,111,108,97,116,105,108,101],[109,117,116,101,120],[114,119,108,111,99,107],[99,111,110,100],[102,117,116,117,114,101],[116,104,114,101,97,100],[105,102],[101,108,115,101],[119,104,105,108,101],[108,111,99,107],[114,101,97,100],[119,114,105,116,101],[116,114,97,110,115,97,99,116,105,111,110],[97,116,111,109,105,99],[119,97,105,116],[110,111,116,105,102,121],[110,111,116,105,102,121,97,108,108],[115,112,97,119,110],[106,111,105,110],[115,101,116],[103,101,116]]
def wN(a:List Nat):Bool:=decide (a∈pz)
def Pf(a:List Nat):Bool:=match a with|c::_=>xy c| []=>false
def wK(a:List Nat):Bool:=decide (1<=a.length)&&decide (a.length<=12)&& !wN a&&Pf a&&a.all yP
def yH(a:List (List Nat)):Bool:=a.all wK&&decide a.Nodup
def OI(a:iY)(c:List iY):Bool:=allI (λb d=>decide (d={a with index:=b,wx:=false})) 0 (c.take a.size.toNat)
def jR:List iY->aa (List (List Nat))
 | []=>some []
 |c::a=>if c.size=0 then(if c.index=0 then(jR a).map (c.name:: ·)else none)
  else if d:c.size<1\/4<c.size\/(a.length+1:Int)<c.size then none
  else if OI c (c::a)=true then(jR ((c::a).drop c.size.toNat)).map (c.name:: ·)else none
 termination_by b=>b.length
 decreasing_by
  ·simp
  ·simp;omega
def nl(b:Nat):Int->Int->List js->Bool
 |_,_,[]=>true
 |t,d,a::c=>if a.eJ<t\/(b:Int)<=a.eJ then false else
  if t<a.eJ then(if a.stmt=0 then nl b a.eJ 1 c else false)else(if a.stmt=d then nl b t (d+1) c else false)
def tg(c:fy)(a:Int)(rw:Bool):Bool:=match qB c.fI a with|some b=>b.rW==rw|none=>false
def vk(a:fy):Bool:=decide (a.cells.length<=12)&&decide (a.fI.length<=4)&&decide (a.iL.length<=2)&&decide (a.fH.length<=2)&&decide (a.jy.length<=60)&&decide (1<=a.ee.length)&&decide (a.ee.length<=4)
def um(a:fy)(b:List (List Nat)):List (List Nat):=b++a.fI.map (·.name)++a.iL.map (·.name)++a.fH++a.ee
def EI(a:fy):Bool:=match jR a.cells with|none=>false|some b=>yH (um a b)
def kM(a:fy):Bool:=vk a&&EI a&&(a.iL.all λb=>tg a b.kU false)&&nl a.ee.length 0 0 a.jy
def ze(c:fy)(b:Int):Bool:=match qB c.cells b with|some a=>decide (a.size=0)|none=>false
def Dj(d:fy)(b c:Int):Bool:=match qB d.cells b with|some a=>decide (a.index=0)&& !decide (a.size=0)&&decide (a.size=c)|none=>false
def jP(d:iE):List Int:=
 if d.op=1\/d.op=6\/d.op=10\/d.op=27 then [d.a]else if d.op=2\/d.op=3 then [d.a,d.b]else if d.op=4 then [d.a,d.b,d.c]
 else if d.op=7 then [d.a,d.c]else if d.op=8\/d.op=26 then [d.b]else if d.op=9 then [d.b,d.c]else []
def om(d:fy)(c:iE):Bool:=
 if c.op=6 then ze d c.b else if c.op=8 then ze d c.a else if c.op=7 then Dj d c.b c.n else if c.op=9 then Dj d c.a c.n
 else if c.op=11\/c.op=12 then tg d c.a false else if c.op=13\/c.op=14\/c.op=15\/c.op=16 then tg d c.a true
 else if c.op=21\/c.op=22\/c.op=23 then ju c.a d.iL.length else if c.op=24\/c.op=25 then ju c.a d.ee.length
 else if c.op=26 then ju c.a d.fH.length else if c.op=27 then ju c.b d.fH.length
 else if c.op=3 then decide (c.n=4\/c.n=5)else if c.op=4 then decide (6<=c.n/\c.n<=18)else true
def zd(a:Int):Bool:=decide (1<=a/\a<=5)
def ND(b:iE)(c:Int):Int:=if b.op=5 then b.a else c+1
def FY(c:List iE):Nat->Int->Bool
 |0,_=>false
 |m+1,b=>match qB c b with
  |none=>false
  |some a=>if zd a.op=true then FY c m (ND a b)else true
def CA(a:ei):Bool:=decide (a.je=3)||decide (a.je=4)
def JL{b a:Type}(e:b->a->Bool)(f:List a->a->Bool)(d:b->a->b):List a->b->List a->Bool
 |_,_,[]=>true
 |pre,g,c::h=>(e g c&&f pre c)&&JL e f d (pre++[c]) (d g c) h
def Rz{c a:Type}{g:c->a->Bool}{j:List a->a->Bool}{f:c->a->c}:∀(b h:List a) (e:c),JL g j f h e b=true->rj g f e b=true:=by
 intro b;induction b with
 |nil=>intro _ _ _;rfl
 |cons k b i=>
  intro h e d;simp only[JL,az]at d;simp only[rj,az];exact⟨d.1.1,i _ _ d.2⟩
def VR(b:List fR)(a:fR):Bool:=yv b a.eJ a.nQ&&yv b a.eJ a.wm
def sI(a:fy)(b:List fR):Bool:=decide (b.length<=400)&&kM a&&JL (rO a) VR (li a) [] (kA a) b
def Cj{b:fy}{c:List fR}(a:sI b c=true):runs b (kA b) c=true/\b.ee.length<=4/\c.length<=400:=by
 unfold sI at a;simp only[az,aM]at a;refine⟨Rz _ _ _ a.2,?_,a.1.1⟩;have d:=a.1.2;unfold kM vk at d;simp only[az,aM]at d;omega
structure u5(N:Nat)(s:gH):Prop where
 l:s.gu.fI.length<=1000/\s.gu.done.length<=1000/\s.gu.ee.length<=1000/\s.cells.length<=1000/\s.fH.length<=1000/\s.count.length<=1000
 r:∀l∈s.gu.fI,l.fO.length<=N
 a:s.gu.Cx
 c:∀c∈s.count,-N<=c/\c<=N
def u5.up{e Mq:Nat}{f:gH}(b:u5 e f)(i:e<=Mq):u5 Mq f:=⟨b.l,λh d=>by have:=b.r h d;omega,b.a,λg d=>by have:=b.c g d;omega⟩
def aaS{b:Nat}{c:gY}{i:Int}{d:fa->fa}(e:∀a∈c.fI,a.fO.length<=b)(g:∀a∈c.fI,(d a).fO.length<=b+1):∀a∈(c.pO i d).fI,a.fO.length<=b+1:=by
 intro a hl;rcases mem_modify hl with f|⟨j,h,rfl⟩
 ·have:=e a f;omega
 ·exact g j h
def Iz{d:Nat}{j:gY}(k:∀a∈j.fI,a.fO.length<=d)(p:fy)(h m n q:Int):∀a∈(fZ p j h m n q).1.fI,a.fO.length<=d+1:=by
 have c:∀a∈j.fI,a.fO.length<=d+1:=λa o=>by have:=k a o;omega
 have l:∀(f:Int) (b:fa->fa),(∀a,(b a).fO=a.fO\/(b a).fO=m6 a.fO h\/(b a).fO=a.fO.filter λg=> !decide (g=h))->∀a∈(j.pO f b).fI,a.fO.length<=d+1:=λf b i=>aaS k λa hl=>by
  have r:=k a hl;rcases i a with e|e|e<;>rw[e]
  ·omega
  ·have:=F2 a.fO h;omega
  ·have:=List.length_filter_le (λg=> !decide (g=h)) a.fO;omega
 exact xR (P:=λg=>∀a∈g.1.fI,a.fO.length<=d+1) c c (λ_ _ _=>c) (λf b i=>⟨l f b i,λ_ _=>l f b i⟩) (λ_=>c) (λ_ _=>c) (λ_=>c)
def Qc(a:Nat):u5 a v8:=⟨by simp[v8],by simp[v8],by intro b hl;simp[v8]at hl,by simp[v8]⟩
def u5.step{e:Nat}{f:gH}(d:u5 e f)(h:fy)(b:fR):u5 (e+1) (kz h f b).1:=by
 unfold kz;split
 ·have hl:=xP h f.gu b.eJ b.fh b.obj (mr b);have⟨l1,l2,l3,l4,l5,l6⟩:=d.l;refine⟨⟨by show(fZ ..).1.fI.length<=_;omega,by show(fZ ..).1.done.length<=_;omega,by show(fZ ..).1.ee.length<=_;omega,?_,?_,?_⟩,Iz d.r _ _ _ _ _,xQ d.a _ _ _ _ _,λg i=>?_⟩
  ·unfold li;simp only;split<;>simp[l4]
  ·unfold li;simp only;split<;>simp[l5]
  ·unfold li;simp[l6]
  ·rcases mem_modify (show g∈f.count.modify b.eJ.toNat (· +1)from i)with k|⟨m,j,rfl⟩
   ·have:=d.c g k;omega
   ·have:=d.c m j;omega
 ·exact(Qc e).up (Nat.le_succ e)
def u5.r9{w:fy}:∀(a:List fR) {b:Nat} {c:gH},u5 b c->u5 (b+a.length) (r9 w c a):=by
 intro a;induction a with
 |nil=>intro b c d;exact d
 |cons e a f=>
  intro b c d;have:=f (d.step w e);rw[show b+1+a.length=b+(e::a).length by simp;omega]at this;exact this
def xd(a:fy)(d:a.fI.length<=1000/\a.fH.length<=1000/\a.ee.length<=1000/\a.cells.length<=1000):u5 0 (kA a):=by
 refine⟨by simp[kA,mO];omega,λe hl=>?_,vj a,λc b=>?_⟩
 ·simp[kA,mO]at hl;obtain⟨_,rfl⟩:=hl;simp
 ·simp[kA]at b;omega
end
end Go.Proofs.YtalknpnbaceflaaGreatDoor
namespace Go.TI
noncomputable section
section
attribute [-simp] gG fK
section
def gT(a:Bool)(b:T):T:=match a with|true=>b|false=> .undef
def mgT(a:Bool)(b c:T):T:=match a with|true=>b|false=>c
@[simp]theorem aeQ (b:Bool) (a:T):mgT b a a=a:=by cases b<;>rfl
@[simp]theorem ajm (a:Bool) (b:T):mgT a b .undef=gT a b:=by cases a<;>rfl
@[simp]theorem ajl (a:Bool) (b:T):mgT a .undef b=gT (!a) b:=by cases a<;>rfl
@[simp]theorem ajn (a b c:Bool):mgT a (.ez b) (.ez c)= .ez (bif a then b else c):=by cases a<;>rfl
def mgV(a:Bool)(b c:iM):iM:=match a with|true=>b|false=>c
@[simp]theorem aeO (b:Bool) (a:iM):mgV b a a=a:=by cases b<;>rfl
@[simp]theorem aeP (a:Bool) (b:Nat) (e g:T) (c d:iM):mgV a (.cons b e c) (.cons b g d)= .cons b (mgT a e g) (mgV a c d):=by cases a<;>rfl
def yd:iM->Nat->T->iM
 | .nil,_,_=> .nil
 | .cons a e b,c,d=>if a=c then .cons a d b else .cons a e (yd b c d)
@[simp]def Qu (a c:Nat) (e d:T) (b:iM):yd (.cons a e b) c d=if a=c then .cons a d b else .cons a e (yd b c d):=id rfl
def wz:∀{c:iM} {b:Nat} {d:T},M c b=some d->yd c b d=c
 | .nil,_,_,_=>rfl
 | .cons e i g,b,d,h=>by
  rw[nZ]at h;rw[Qu];by_cases a:e=b
  ·rw[au a]at h;simp only[aw]at h;rw[au a,h]
  ·rw[Z a]at h;rw[Z a,wz h]
def G9(a:Nat):List Oper->List Oper
 | []=>[]
 |o::c=>match o.guard with|some (b,_)=>if a<=b then o::G9 a c else []|none=>[]
def Pp(b:Nat):List Oper->List Oper
 | []=>[]
 |o::a=>match o.guard with|some (c,_)=>if b<=c then Pp b a else o::a|none=>o::a
def Se(b:Nat):∀a,G9 b a++Pp b a=a
 | []=>rfl
 |o::a=>by
  unfold G9 Pp;cases o.guard with
  |none=>rfl
  |some c=>
   simp only;split
   ·rw[cJ,Se b a]
   ·rfl
section
variable {cx:Ctx}{cf:jQ}{D:Nat}
@[simp]def ajf (c:Nat) (b:aa Tmp) (e:Op) (i:af) (g:String) (a:ah Edge) (d:List Oper):G9 c (⟨b,e,i,g,a,none⟩::d)=[]:=id rfl
@[simp]def ajw (i:Nat) (b:aa Tmp) (d:Op) (g:af) (e:String) (a:ah Edge) (c:List Oper):Pp i (⟨b,d,g,e,a,none⟩::c)=⟨b,d,g,e,a,none⟩::c:=id rfl
@[simp]def ajg (a b:Nat) (d:Bool) (e:aa Tmp) (i:Op) (k:af) (j:String) (c:ah Edge) (g:List Oper):G9 a (⟨e,i,k,j,c,some (b,d)⟩::g)=if a<=b then⟨e,i,k,j,c,some (b,d)⟩::G9 a g else []:=id rfl
@[simp]def ajx (a b:Nat) (e:Bool) (g:aa Tmp) (i:Op) (k:af) (j:String) (d:ah Edge) (c:List Oper):Pp a (⟨g,i,k,j,d,some (b,e)⟩::c)=if a<=b then Pp a c else⟨g,i,k,j,d,some (b,e)⟩::c:=id rfl
def yt(a:ah Oper)(c:Oper)(g:List Oper)(b:Env)(h:H):
 lZ cx cf D a (c::g) b h=J (Bj cx cf D a b h c) λi=>two i λj e=>J (b.dst D c.dst j) λd=>lZ cx cf D a g d e:=by
 show(J (mV cx cf D a b h c) λi=>two i λd e=>lZ cx cf D a g d e)=_;rw[uh]
def wc(b:ah Oper):∀(c d:List Oper) (a:Env) (h:H),lZ cx cf D b (c++d) a h=J (lZ cx cf D b c a h) λi=>two i λe g=>lZ cx cf D b d e g
 | [],_,_,_=>rfl
 |o::c,d,a,h=>by
  rw[cJ,yt,yt];cases Bj cx cf D b a h o with
  |none=>rfl
  |some i=>
   obtain⟨j,g⟩:=i;simp only[fw,mv];cases a.dst D o.dst j with
   |none=>rfl
   |some e=>simp only[fw];exact wc b c d e g
def ui(cx:Ctx)(cf:jQ)(D:Nat)(b:ah Oper)(a:List Oper)(d c:iM)(h:H):aa (Env×H):=lZ cx cf D b a ⟨d,c⟩ h
def SG(l:aa (T×H))(cx:Ctx)(cf:jQ)(D:Nat)(e:ah Oper)(a:aa Tmp)(d:List Oper)(k i:iM):aa (Env×H):=
 J l λg=>two g λj c=>J (Env.dst D ⟨k,i⟩ a j) λb=>lZ cx cf D e d b c
@[simp]def ad9 (c:ah Oper) (b a:iM) (h:H):ui cx cf D c [] b a h=some (⟨b,a⟩,h):=id rfl
def UF(d b:iM)(a:Tmp)(c:T):Env.dst D ⟨d,b⟩ (some a) c=some (if(D>>>a)&&&1=1 then⟨put d a c,b⟩else⟨d,.cons a c b⟩):=by
 show @Bool.rec (λ_=>aa Env) (some ⟨d,.cons a c b⟩) (J (nG d a c) λe=>some ⟨e,b⟩) (lI D a)=_;rw[rH];have:=FX D a;cases hl:lI D a with
 |true=>rw[au (by rw[<-this];exact hl)];rfl
 |false=>rw[Z (by rw[<-this,hl];simp)]
@[simp]theorem ahp (e:T) (h:H) (c:ah Oper) (a:Tmp) (b:List Oper) (g d:iM):SG (some (e,h)) cx cf D c (some a) b g d=
 if(D>>>a)&&&1=1 then ui cx cf D c b (put g a e) d h else ui cx cf D c b g (.cons a e d) h:=by
 unfold SG;rw[fw,mv,UF,fw];split<;>rfl
def G3(o:aa Tmp)(i:aa Bool)(m:Nat)(l:Bool)(cx:Ctx)(cf:jQ)(D:Nat)(g:ah Oper)(c:aa Tmp)(e:Op)(p:af)(n:String)(k:ah Edge)(d:List Oper)(b a:iM)(h:H):aa (Env×H):=
 SG (J i λj=> @Bool.rec (λ_=>aa (T×H)) (some (.undef,h)) (fin cf h (ke e cx D ⟨b,a⟩ h)) j) cx cf D g c d b a
def MM(a:ah Oper)(j:aa Tmp)(k:Op)(m:af)(l:String)(i:ah Edge)(c:Nat)(b:Bool)(d:List Oper)(g e:iM)(h:H)(n:aa Tmp):
 ui cx cf D a (⟨j,k,m,l,i,some (c,b)⟩::d) g e h=G3 n (lQ a D ⟨g,e⟩ (some (c,b))) c b cx cf D a j k m l i d g e h:=yt a _ d _ h
@[simp]def Kt (b:List Oper) (i:aa Tmp) (k:Op) (m:af) (l:String) (g:ah Edge) (a:Nat) (c:Bool) (j:List Oper) (e d:iM) (h:H):
 ui cx cf D b.toArray (⟨i,k,m,l,g,some (a,c)⟩::j) e d h=G3 (J (b[a]?) λn=>n.dst) (lQ b.toArray D ⟨e,d⟩ (some (a,c))) a c cx cf D b.toArray i k m l g j e d h:=MM b.toArray i k m l g a c j e d h _
@[simp]def ahv (m:aa Tmp) (k:Nat) (j:Bool) (g:ah Oper) (c:aa Tmp) (e:Op) (n:af) (l:String) (i:ah Edge) (d:List Oper) (b a:iM) (h:H):G3 m (some true) k j cx cf D g c e n l i d b a h=SG (fin cf h (ke e cx D ⟨b,a⟩ h)) cx cf D g c d b a:=id rfl
@[simp]def af8 (m:aa Tmp) (j:Nat) (i:Bool) (c:ah Oper) (a:aa Tmp) (k:Op) (n:af) (l:String) (g:ah Edge) (b:List Oper) (e d:iM) (h:H):G3 m (some false) j i cx cf D c a k n l g b e d h=SG (some (.undef,h)) cx cf D c a b e d:=id rfl
def BGo(a:Bool)(g i:aa (Env×H))(cx:Ctx)(cf:jQ)(D:Nat)(c:ah Oper)(e:List Oper):aa (Env×H):=J (bif a then g else i) λd=>two d λb h=>lZ cx cf D c e b h
@[congr] theorem acY {a b:Bool} {g i j k:aa (Env×H)} {c:ah Oper} {d e:List Oper} (l:a=b) (m:g=i) (n:j=k) (hr:d=e):BGo a g j cx cf D c d=BGo b i k cx cf D c e:=by rw[l,m,n,hr]
@[simp]theorem ahC (a:Bool) (g d i e:iM) (h:H) (b:ah Oper) (c:List Oper):BGo a (some (⟨g,d⟩,h)) (some (⟨i,e⟩,h)) cx cf D b c=ui cx cf D b c (mgV a g i) (mgV a d e) h:=by cases a<;>rfl
def Pn{e c:iM}{a:Tmp}{d:T}(g:(D>>>a)&&&1=0)(b:Env.get D ⟨e,c⟩ a=some d):M c a=some d:=by
 rw[Ev,Z B]at b;exact b
def Sx{b:List Oper}{g:Tmp}{i:Bool}{a:List Oper}{d c:iM}{h:H}(e:Nat)(n:(D>>>g)&&&1=0)(m:Env.get D ⟨d,c⟩ g=some (.ez i)):
 ui cx cf D b.toArray a d c h=BGo i (ui cx cf D b.toArray (G9 e a) d (yd c g (.ez true)) h) (ui cx cf D b.toArray (G9 e a) d (yd c g (.ez false)) h) cx cf D b.toArray (Pp e a):=by
 have j:=Pn n m;have:ui cx cf D b.toArray a d c h=J (ui cx cf D b.toArray (G9 e a) d c h) λo=>two o λk l=>lZ cx cf D b.toArray (Pp e a) k l:=by
  show lZ cx cf D b.toArray a ⟨d,c⟩ h=_
  conv=>lhs;rw[<-Se e a]
  exact wc _ _ _ _ _
 rw[this];cases i
 ·conv=>lhs;rw[<-wz j]
  rfl
 ·conv=>lhs;rw[<-wz j]
  rfl
def VJ(d:List Oper)(b:Tmp)(o:Bool)(a:Nat)(c:Bool)(g:aa Tmp)(j:Op)(l:af)(k:String)(e:ah Edge)(i:List Oper)(n m:iM)(h:H)(r:Bool)
 (s:(D>>>b)&&&1=0) (p:(J (d[a]?) λu=>u.dst)=some b) (q:Env.get D ⟨n,m⟩ b=some (.ez o)) (t:r=(o==c)):
 G3 (some b) (some r) a c cx cf D d.toArray g j l k e i n m h=
  BGo o (ui cx cf D d.toArray (G9 a (⟨g,j,l,k,e,some (a,c)⟩::i)) n (yd m b (.ez true)) h) (ui cx cf D d.toArray (G9 a (⟨g,j,l,k,e,some (a,c)⟩::i)) n (yd m b (.ez false)) h) cx cf D d.toArray (Pp a (⟨g,j,l,k,e,some (a,c)⟩::i)):=by
 subst t;rw[<-Sx a s q,Kt,p,EM,p,fw,q,EL]
@[simp low] theorem ahw (c:List Oper) (b:Tmp) (e:Bool) (a:Nat) (g:aa Tmp) (j:Op) (l:af) (k:String) (d:ah Edge) (i:List Oper) (n m:iM) (h:H)
 (q:(D>>>b)&&&1=0) (o:(J (c[a]?) λr=>r.dst)=some b) (p:Env.get D ⟨n,m⟩ b=some (.ez e)):
 G3 (some b) (some e) a true cx cf D c.toArray g j l k d i n m h=
  BGo e (ui cx cf D c.toArray (G9 a (⟨g,j,l,k,d,some (a,true)⟩::i)) n (yd m b (.ez true)) h) (ui cx cf D c.toArray (G9 a (⟨g,j,l,k,d,some (a,true)⟩::i)) n (yd m b (.ez false)) h) cx cf D c.toArray (Pp a (⟨g,j,l,k,d,some (a,true)⟩::i)):=
 VJ c b e a true g j l k d i n m h e q o p G 
@[simp low] theorem ahx (d:List Oper) (b:Tmp) (c:Bool) (a:Nat) (g:aa Tmp) (j:Op) (l:af) (k:String) (e:ah Edge) (i:List Oper) (n m:iM) (h:H)
 (q:(D>>>b)&&&1=0) (o:(J (d[a]?) λr=>r.dst)=some b) (p:Env.get D ⟨n,m⟩ b=some (.ez !c)):
 G3 (some b) (some c) a false cx cf D d.toArray g j l k e i n m h=
  BGo (!c) (ui cx cf D d.toArray (G9 a (⟨g,j,l,k,e,some (a,false)⟩::i)) n (yd m b (.ez true)) h) (ui cx cf D d.toArray (G9 a (⟨g,j,l,k,e,some (a,false)⟩::i)) n (yd m b (.ez false)) h) cx cf D d.toArray (Pp a (⟨g,j,l,k,e,some (a,false)⟩::i)):=
 VJ d b (!c) a false g j l k e i n m h c q o p (by cases c<;>rfl)
def G2(o:aa Tmp)(j:aa Bool)(m:Nat)(l:Bool)(cx:Ctx)(cf:jQ)(D:Nat)(e:ah Oper)(b:aa Tmp)(d:Op)(p:af)(n:String)(k:ah Edge)(c:List Oper)(i g:iM)(h:H)(a:jE):Prop:=GK j cx cf D e b d c i g h a
@[simp]def RN (b:List Oper) (j:aa Tmp) (l:Op) (n:af) (m:String) (i:ah Edge) (a:Nat) (c:Bool) (k:List Oper) (e d:iM) (h:H) (g:jE):
 RK cx cf D b.toArray (⟨j,l,n,m,i,some (a,c)⟩::k) e d h g=G2 (J (b[a]?) λo=>o.dst) (lQ b.toArray D ⟨e,d⟩ (some (a,c))) a c cx cf D b.toArray j l n m i k e d h g:=gG b.toArray j l n m i a c k e d h g
@[simp]def ahy (n:aa Tmp) (l:Nat) (k:Bool) (i:ah Oper) (d:aa Tmp) (g:Op) (o:af) (m:String) (j:ah Edge) (e:List Oper) (b a:iM) (h:H) (c:jE):G2 n (some true) l k cx cf D i d g o m j e b a h c=XK (fin cf h (ke g cx D ⟨b,a⟩ h)) cx cf D i d e b a c:=id rfl
@[simp]theorem af9 (n:aa Tmp) (k:Nat) (j:Bool) (d:ah Oper) (b:aa Tmp) (l:Op) (o:af) (m:String) (i:ah Edge) (c:List Oper) (g e:iM) (h:H) (a:jE):G2 n (some false) k j cx cf D d b l o m i c g e h a=XK (some (.undef,h)) cx cf D d b c g e a:=by
 unfold XK;rw[Ct];rfl
def BG(c:Bool)(g i:aa (Env×H))(cx:Ctx)(cf:jQ)(D:Nat)(d:ah Oper)(e:List Oper)(b:jE):Prop:=
 (c=true->∃a h,g=some (a,h)/\RK cx cf D d e a.vars a.tmps h b)/\(c=false->∃a h,i=some (a,h)/\RK cx cf D d e a.vars a.tmps h b)
@[congr] theorem agi {b c:Bool} {i j k l:aa (Env×H)} {d:ah Oper} {e g:List Oper} {a:jE} (m:b=c) (n:i=j) (o:k=l) (hr:e=g):BG b i k cx cf D d e a=BG c j l cx cf D d g a:=by rw[m,n,o,hr]
@[simp]def ai6 (c:Bool) (k i l j:iM) (h:H) (e:ah Oper) (g:List Oper) (d:jE):BG c (some (⟨k,i⟩,h)) (some (⟨l,j⟩,h)) cx cf D e g d=RK cx cf D e g (mgV c k l) (mgV c i j) h d:=by
 unfold BG;apply propext;cases c
 ·constructor
  ·intro a;have⟨m,n,b,hr⟩:=a.2 rfl;simp only[aw,aF]at b;obtain⟨rfl,rfl⟩:=b;exact hr
  ·exact λa=>⟨λo=>by grind,λ_=>⟨_,_,rfl,a⟩⟩
 ·constructor
  ·intro a;have⟨m,n,b,hr⟩:=a.1 rfl;simp only[aw,aF]at b;obtain⟨rfl,rfl⟩:=b;exact hr
  ·exact λa=>⟨λ_=>⟨_,_,rfl,a⟩,λo=>by grind⟩
def abX(e:ah Oper)(g q:List Oper)(j i:iM)(h:H)(k:jE):RK cx cf D e (g++q) j i h k=∃l a,ui cx cf D e g j i h=some (l,a)/\RK cx cf D e q l.vars l.tmps a k:=by
 apply propext;show(∃b a,lZ cx cf D e (g++q) ⟨j,i⟩ h=some (b,a)/\k.n ⟨b.vars,.nil⟩ a)↔_;rw[wc];constructor
 ·rintro⟨b,a,c,p⟩;have⟨⟨m,o⟩,d,c⟩:=eg.1 c;exact⟨m,o,d,b,a,c,p⟩
 ·rintro⟨m,o,d,b,a,c,p⟩;have d:lZ cx cf D e g ⟨j,i⟩ h=some (m,o):=d;exact⟨b,a,by rw[d];exact c,p⟩
def VK(i:List Oper)(k:Tmp)(o:Bool)(a:Nat)(b:Bool)(d:aa Tmp)(g:Op)(l:af)(j:String)(c:ah Edge)(e:List Oper)(n m:iM)(h:H)(p:jE)(t:Bool)
 (v:(D>>>k)&&&1=0) (q:(J (i[a]?) λx=>x.dst)=some k) (r:Env.get D ⟨n,m⟩ k=some (.ez o)) (w:t=(o==b)):
 G2 (some k) (some t) a b cx cf D i.toArray d g l j c e n m h p=
  BG o (ui cx cf D i.toArray (G9 a (⟨d,g,l,j,c,some (a,b)⟩::e)) n (yd m k (.ez true)) h) (ui cx cf D i.toArray (G9 a (⟨d,g,l,j,c,some (a,b)⟩::e)) n (yd m k (.ez false)) h) cx cf D i.toArray (Pp a (⟨d,g,l,j,c,some (a,b)⟩::e)) p:=by
 subst w;have s:=Pn v r;have u:G2 (some k) (some (o==b)) a b cx cf D i.toArray d g l j c e n m h p=RK cx cf D i.toArray (⟨d,g,l,j,c,some (a,b)⟩::e) n m h p:=by
  rw[RN,q,EM,q,fw,r,EL]
 rw[u]
 conv=>lhs;rw[<-Se a (⟨d,g,l,j,c,some (a,b)⟩::e)]
 rw[abX];unfold BG;apply propext;cases o
 ·conv=>lhs;rw[<-wz s]
  simp
 ·conv=>lhs;rw[<-wz s]
  simp
@[simp low] theorem ahz (c:List Oper) (b:Tmp) (e:Bool) (a:Nat) (g:aa Tmp) (j:Op) (l:af) (k:String) (d:ah Edge) (i:List Oper) (n m:iM) (h:H) (o:jE)
 (r:(D>>>b)&&&1=0) (p:(J (c[a]?) λs=>s.dst)=some b) (q:Env.get D ⟨n,m⟩ b=some (.ez e)):
 G2 (some b) (some e) a true cx cf D c.toArray g j l k d i n m h o=
  BG e (ui cx cf D c.toArray (G9 a (⟨g,j,l,k,d,some (a,true)⟩::i)) n (yd m b (.ez true)) h) (ui cx cf D c.toArray (G9 a (⟨g,j,l,k,d,some (a,true)⟩::i)) n (yd m b (.ez false)) h) cx cf D c.toArray (Pp a (⟨g,j,l,k,d,some (a,true)⟩::i)) o:=
 VK c b e a true g j l k d i n m h o e r p q G 
@[simp low] theorem ahA (d:List Oper) (b:Tmp) (c:Bool) (a:Nat) (g:aa Tmp) (j:Op) (l:af) (k:String) (e:ah Edge) (i:List Oper) (n m:iM) (h:H) (o:jE)
 (r:(D>>>b)&&&1=0) (p:(J (d[a]?) λs=>s.dst)=some b) (q:Env.get D ⟨n,m⟩ b=some (.ez !c)):
 G2 (some b) (some c) a false cx cf D d.toArray g j l k e i n m h o=
  BG (!c) (ui cx cf D d.toArray (G9 a (⟨g,j,l,k,e,some (a,false)⟩::i)) n (yd m b (.ez true)) h) (ui cx cf D d.toArray (G9 a (⟨g,j,l,k,e,some (a,false)⟩::i)) n (yd m b (.ez false)) h) cx cf D d.toArray (Pp a (⟨g,j,l,k,e,some (a,false)⟩::i)) o:=
 VK d b (!c) a false g j l k e i n m h o c r p q (by cases c<;>rfl)
def ab3{c:Bool}{g i:aa (Env×H)}{d:ah Oper}{e:List Oper}{b:jE}(j:c=true->∃a h,g=some (a,h)/\RK cx cf D d e a.vars a.tmps h b)(k:c=false->∃a h,i=some (a,h)/\RK cx cf D d e a.vars a.tmps h b):BG c g i cx cf D d e b:=⟨j,k⟩
def M0{a d e:Bool}{h:H}{b c:aa nh}(g:a=true->b=some (.val (.ez d) h))(i:a=false->c=some (.val (.ez e) h)):oY (some (.ez a)) b c=some (.val (.ez (bif a then d else e)) h):=by
 cases a
 ·exact i rfl
 ·exact g rfl
@[simp]def agv (a b:aa nh):oY (some (.ez true)) a b=a:=id rfl
@[simp]def aen (b a:aa nh):oY (some (.ez false)) b a=a:=id rfl
@[simp]def ajj (a b c:Bool) (h:H):oY (some (.ez a)) (some (.val (.ez b) h)) (some (.val (.ez c) h))=some (.val (.ez (bif a then b else c)) h):=M0 (λ_=>rfl) (λ_=>rfl)
@[simp]def aji (a c d b:Bool) (h:H) (g:a=false->b=true):oY (some (.ez a)) (some (.val (.ez c) h)) (some (.val (gT b (.ez d)) h))=some (.val (.ez (bif a then c else d)) h):=M0 (λ_=>rfl) (λe=>by rw[g e];rfl)
@[simp]def ajh (a c d b:Bool) (h:H) (g:a=true->b=true):oY (some (.ez a)) (some (.val (gT b (.ez c)) h)) (some (.val (.ez d) h))=some (.val (.ez (bif a then c else d)) h):=M0 (λe=>by rw[g e];rfl) (λ_=>rfl)
end
def ma(th:ak->aa mN):Op->Bool
 | .move _| .assign _| .pick .. | .load .. | .nilCheck _| .unOp .. | .binOp .. | .fieldAddr .. | .field .. | .indexAddr .. | .index .. | .extract .. | .slice .. =>true
 | .call b=>(match b.callee with
  | .builtin a=>(match a with| .len| .min| .max=>true|_=>false)
  | .value c=>(match c with| .func f=>(th f).isNone|_=>false)
  |_=>false)
 |_=>false
section
variable {th:ak->aa mN}
@[simp]def ags (a:ai):ma th (.move a)=true:=id rfl
@[simp]def acf (a:ai):ma th (.assign a)=true:=id rfl
@[simp]def agr (a b c:ai):ma th (.pick a b c)=true:=id rfl
@[simp]def agt (a:af) (b:ai):ma th (.load a b)=true:=id rfl
@[simp]def YZ (a:ai):ma th (.nilCheck a)=true:=id rfl
@[simp]def agq (a:UnOp) (b:af) (c:ai):ma th (.unOp a b c)=true:=id rfl
@[simp]def aej (a:BinOp) (b:af) (d e:ai) (c:af):ma th (.binOp a b d e c)=true:=id rfl
@[simp]def Wm (a:af) (b:ai) (f:Nat):ma th (.fieldAddr a b f)=true:=id rfl
@[simp]def Wl (a:af) (b c:ai):ma th (.indexAddr a b c)=true:=id rfl
@[simp]def aag (b:ai) (a:Nat):ma th (.extract b a)=true:=id rfl
@[simp]def aeg (d:af) (e:ai) (a b c:aa ai):ma th (.slice d e a b c)=true:=id rfl
@[simp]def aeh (f:ak) (a:ah ai) (b:ah af):ma th (.call ⟨.value (.func f),a,b⟩)=(th f).isNone:=id rfl
@[simp]def ahX (a:ah ai) (b:ah af):ma th (.call ⟨.builtin .len,a,b⟩)=true:=id rfl
@[simp]def ahW (a:ah ai) (b:ah af):ma th (.call ⟨.builtin .min,a,b⟩)=true:=id rfl
@[simp]def aek (a:af):ma th (.alloc a)=false:=id rfl
@[simp]def aef (a:af) (b c:ai):ma th (.store a b c)=false:=id rfl
@[simp]def aei (b:af) (a:ah (Nat×ai)):ma th (.build b a)=false:=id rfl
@[simp]def VS (c:af) (a:Nat) (b:ah (Nat×ai)):ma th (.buildSlice c a b)=false:=id rfl
end
def Kp(th:ak->aa mN)(h:H)(e:aa nh):Prop:=∀a,e=some a->(∀d b,a= .val d b->b=h)/\∀f c,a= .call f c->th f=none
section
variable {th:ak->aa mN}{h:H}
theorem Kp.val(b:aa T):Kp th h (val h b):=by
 intro c a;have⟨d,_,a⟩:=eg.1 a
 grind
def Kp.one(a:T):Kp th h (some (.val a h)):=Kp.val (some a)
theorem Kp.none:Kp th h none:=by intro a b;grind
theorem Kp.J{α:Type}{e:aa α}{f:α->aa nh}(d:∀a,Kp th h (f a)):Kp th h (J e f):=by
 intro c b;have⟨a,_,b⟩:=eg.1 b;exact d a c b
theorem Kp.iS{b:Bool}{a:aa nh}(e:Kp th h a):Kp th h (iS b a):=by
 intro c d;exact e c (fj.1 d).2
def aaq{m:Op}(e:ma th m=true)(cx:Ctx)(D:Nat)(s:Env):Kp th h (ke m cx D s h):=by
 cases m<;>first|(simp[ma]at e;done)|skip
 case move x=>exact Kp.val _
 case assign x=>exact Kp.val _
 case pick k n j=>
  rw[W7];unfold oY;refine Kp.J λa=>?_;cases a<;>first|exact Kp.none|grind [Kp.val]
 case load b n=>simp[Kp.val,Kp.J]
 case nilCheck x=>exact Kp.J λa=>by cases a<;>first|exact Kp.none|exact Kp.one _
 case unOp i b x=>simp[Kp.val,Kp.J]
 case binOp i b x p I=>
  cases i<;>first
   |exact Kp.J λ_=>Kp.J λ_=>Kp.val _
   |exact Kp.J λ_=>Kp.J λ_=>Kp.J λ_=>Kp.iS (Kp.J λ_=>Kp.val _)
 case fieldAddr b x f=>
  exact Kp.J λt=>Kp.J λa=>by
   cases a<;>first|exact Kp.none|exact Kp.J λ_=>Kp.one _
 case field b x f=>
  exact Kp.J λt=>Kp.J λ_=>Kp.J λa=>by
   cases a<;>first|exact Kp.none|simp[Kp.val,Kp.J]
 case indexAddr b x g=>
  exact Kp.J λd=>Kp.J λa=>Kp.J λ_=>Kp.J λg=>by
   cases d.u<;>first|exact Kp.none|(refine Kp.J λv=>?_;first
    |(cases a<;>first|exact Kp.none|exact Kp.J λ_=>Kp.iS (Kp.one _)|exact Kp.iS (Kp.J λ_=>Kp.iS (Kp.iS (Kp.J λ_=>Kp.one _))))
    |(refine Kp.iS ?_;cases a<;>first|exact Kp.none|exact Kp.J λ_=>Kp.one _|(refine Kp.J λq=>?_;cases Nat.beq q.sz v.size<;>first|exact Kp.J λ_=>Kp.one _|simp[Kp.one,Kp.iS])))
 case index b x g=>
  exact Kp.J λd=>Kp.J λa=>Kp.J λ_=>Kp.J λg=>by
   cases d.u<;>first|exact Kp.none|(cases a<;>first|exact Kp.none|exact Kp.J λ_=>Kp.val _|grind [Kp.val,Kp.J,Kp.iS])
 case extract x g=>exact Kp.J λa=>by cases a<;>first|exact Kp.none|exact Kp.val _
 case slice b x n j k=>exact Kp.J λ_=>Kp.J λ_=>Kp.iS (Kp.J λ_=>Kp.J λ_=>Kp.J λ_=>Kp.iS (Kp.val _))
 rename_i k;obtain⟨r,w,F⟩:=k;cases r with
 |builtin j=>
  refine Kp.J λl=>?_;cases j<;>first
   |(simp[ma]at e;done)
   |(match l with
    | []=>exact Kp.none
    | [x]=>first|exact Kp.none|(refine Kp.J λb=>Kp.J λd=>?_;cases d.u<;>first|exact Kp.none|exact Kp.val _|(cases x<;>first|exact Kp.none|exact Kp.val _))
    | [x,p]=>first|exact Kp.val _|exact Kp.none
    |x::p::K::l=>exact Kp.none)
 |value i=>
  cases i with
  |func f=>
   have z:(th f).isNone=true:=e;refine Kp.J λl=>?_;intro y c;obtain⟨a,o,c⟩:=eg.1 c;simp only[QO,aw]at o;subst o;obtain⟨E,_,c⟩:=eg.1 c;simp only[aw]at c;subst c;simp_all
  |_=>simp[ma]at e
 |_=>grind [ma]
end
section
variable {P:aj}{cx:Ctx}{tb:io}{D:Nat}
def UB{j:Op}(o:ma tb.h j=true){e:Env}{h:H}{k:T}{c:H}(a:fin (tz P cx tb) h (ke j cx D e h)=some (k,c)):c=h:=by
 have⟨d,m,a⟩:=eg.1 a;have⟨r,p⟩:=aaq o cx D e d m;rcases d with⟨t,q⟩|⟨f,b⟩
 ·simp only[aw,aF]at a;rw[<-a.2];grind
 ·have n:=p _ _ rfl;have a:tz P cx tb f b h=some (k,c):=a;have g:hl P cx tb f b h=none:=by unfold hl;rw[n]
  rw[UZ]at a;cases i:Vn h b with
  |none=>rw[i,UX,g]at a;grind
  |some l=>
   rw[i,UW,g]at a;cases hr:rl P cx tb f l with
   |none=>rw[hr]at a;simp at a
   |some s=>
    rw[hr,UY]at a
    grind
def GV(j:ah Oper)(k:List (Nat×Nat))(Q:iM->H->Prop):∀(g:List Oper) (e:Nat) (m:List (Nat×Nat)) (d:List (Nat×H×H)) (b a:iM) (h:H),(g.all λo=>ma tb.h o.op)=true->(∀l∈d,l.2.1=l.2.2)->
 Oi cx (tz P cx tb) D j k g e m d b a h Q=WR cx (tz P cx tb) D j g b a h Q
 | [],e,m,d,b,a,h,_,_=>by rw[PZ,VF]
 |o::g,e,m,d,b,a,h,n,q=>by
  simp only[cA,az]at n;rw[Mc,JZ];unfold Bj;cases lQ j D ⟨b,a⟩ o.guard with
  |none=>apply propext;constructor<;>(first|exact False.elim|(rintro⟨i,c,K,_⟩;simp_all))
  |some F=>
   rw[fw];cases F with
   |false=>
    rw[Md,Ct];congr 1;funext b a;exact GV j k Q g _ m d b a h n.2 q
   |true=>
    rw[P5];apply propext;have L:∀i c,fin (tz P cx tb) h (ke o.op cx D ⟨b,a⟩ h)=some (i,c)->
     ((DK cx D k e m d o.op ⟨b,a⟩ h c λm d=>WD D o.dst i b a λb a=>Oi cx (tz P cx tb) D j k g (e+1) m d b a c Q)↔WD D o.dst i b a λb a=>WR cx (tz P cx tb) D j g b a c Q):=by
     intro i c y;have z:=UB n.1 y;subst z;have I:∀s,oL k e s d:=λs l n _=>by rw[q l n];simp
     have J:∀u v i,o.op≠ .store u v i:=λu v i E=>by have:=n.1;rw[E]at this;simp_all
     have t:∀r p,(∀l∈p,l.2.1=l.2.2)->((WD D o.dst i b a λb a=>Oi cx (tz P cx tb) D j k g (e+1) r p b a c Q)↔WD D o.dst i b a λb a=>WR cx (tz P cx tb) D j g b a c Q):=by
      intro r p w;rw[show(λb a=>Oi cx (tz P cx tb) D j k g (e+1) r p b a c Q)=λb a=>WR cx (tz P cx tb) D j g b a c Q from by funext b a;exact GV j k Q g _ r p b a c n.2 w]
     unfold DK;split
     ·rw[NP];show(True/\_)/\(WD D o.dst i b a λb a=>Oi cx (tz P cx tb) D j k g (e+1) m (if m7 k e=true then(e,c,c)::d else d) b a c Q)↔_;have x:∀l∈(if m7 k e=true then(e,c,c)::d else d),l.2.1=l.2.2:=by
       grind
      rw[t _ _ x]
      grind
     ·cases jb cx D ⟨b,a⟩ c o.op with
      |none=>exact t _ _ q
      |some s=>simp only;rw[t _ _ q];grind
    show(∃i c,_/\_)↔∃i c,_/\_
    grind
@[simp high] theorem ahr (a:List Oper) (d:List (Nat×Nat)) (b:iM) (h:H) (c:jE) (e:(a.all λg=>ma tb.h g.op)=true):QK cx (tz P cx tb) D a (some d) b h c=RK cx (tz P cx tb) D a.toArray a b .nil h c:=
 GV a.toArray d (λb h=>c.n ⟨b,.nil⟩ h) a 0 [] [] b .nil h e (λj i=>by grind)
end
def Ik(b:T):Prop:=∃a,b= .int .i64 a
@[simp]def agE (a:Int):Ik (.int .i64 a)=True:=by simp[Ik]
section
variable {P:aj}{cx:Ctx}{f:ak}{α:Type}{A:α->List T}{pre:α->Prop}{Q:α->T->Prop}
noncomputable abbrev pM.kc(_:pM P cx f A pre Q):iK:=wR P cx f A pre Q
def pM.use(c:pM P cx f A pre Q)(a:α)(b:pre a):∃d,Q a d/\∀{tb:io},tb.p f=some (wR P cx f A pre Q)->rl P cx tb f (A a)=some d:=⟨_,c.2 a b,λht=>iN ht c.1 a b⟩
end
section
variable {P:aj}{cx:Ctx}{f:ak}{α γ:Type}{A:α->List T}{pre:α->Prop}
def pM.fnI(d:pM P cx f A pre (λ_=>Ik))(b:γ->α)(c:∀a,pre (b a)):∃e:γ->Int,∀{tb:io},tb.p f=some (wR P cx f A pre (λ_=>Ik))->∀a,rl P cx tb f (A (b a))=some (.int .i64 (e a)):=by
 refine⟨λa=>(d.2 (b a) (c a)).choose,λht a=>?_⟩;exact(iN ht d.1 (b a) (c a)).trans (bL some (d.2 (b a) (c a)).choose_spec)
end
@[simp]def ajB (a:jK):iQ 1 (hE.cons a)=True:=by simp;exact⟨G,G,G⟩
@[simp]def ajA (a b:jK):iQ 2 ((hE.cons a).cons b)=True:=by simp;exact⟨G,G,G⟩
@[simp]def ajz (b c d a:jK):iQ 4 ((((hE.cons b).cons c).cons d).cons a)=True:=by simp;exact⟨G,G,G⟩
def qm(a:ao)(b c:Int):binop .add (.int a b) (.int a c)=some (.int a (a.wrap (b+c))):=by
 show iS (G6 a a) (sP a (b+c))=_;simp
def uf(a:ao)(b c:Int):binop .sub (.int a b) (.int a c)=some (.int a (a.wrap (b-c))):=by
 show iS (G6 a a) (sP a (b-c))=_;simp
def aeL(a:ao)(b c:Int):binop .mul (.int a b) (.int a c)=some (.int a (a.wrap (b*c))):=by
 show iS (G6 a a) (sP a (b*c))=_;simp
def Lo(c:T):Prop:=∃a b,c= .tuple [.int .i64 a,.int .i64 b]
@[simp]def agF (a b:Int):Lo (.tuple [.int .i64 a,.int .i64 b])=True:=by simp[Lo]
