/- DFun -/
import Derived.Test.YtajpdafdickapaaGreatDoorA7
import Derived.Test.YtajpdafdickapaaGreatDoorProg
set_option linter.all false
set_option maxRecDepth 100000
set_option maxHeartbeats 8000000
namespace Go.Proofs.YtajpdafdickapaaGreatDoor
noncomputable section
open Go Go.TI Tryz
def iL:prog.follows .mixedOrders=true:=dG
def Xd:jq.TD λb a=>Xe prog b a.cmp=some a:=by
 unfold jq;repeat' first|exact .nil|refine .node ?_ dG ?_
def iB:jg prog cx:=⟨λb c a=>⟨_,Xd.find a⟩⟩
end
end Go.Proofs.YtajpdafdickapaaGreatDoor
namespace Go.TI
noncomputable section
section
def hr(a:H):H:=⟨a.size,a.size,a.fG⟩
@[simp]def oz (a:H):(hr a).size=a.size:=id rfl
@[simp]def gU (a:H) (b:Nat):(hr a).get b=a.get b:=H.rV a a.size b
@[simp]def acL (a:H):Hp (hr a)=Hp a:=id rfl
def Nc(f:Bool)(c:H)(g:List T)(e:H)(d:T->H->Prop):Prop:=∃b a,DA f c.size c.low (jS g) e=some (b,a)/\(d b a\/d (cn b) a)
section
variable {P:ai}{cx:Ctx}{cf:je}{mask:Nat}
def aap(L:P.follows .mixedOrders=true)(jq:jg P cx){m:aj}{a:Func}{r:DL}(h:Et P cx m a mask r)(C:nY P cx cf)(i:Bool){b:List T}{c:H}{u:T->H->Prop}(M:b.length<=a.ntmps)(j:Nat)
 (S:∀z,m7 z 0 b->W (jB cx cf j mask r (a.body.getD .skip) ⟨z,.nil⟩ (hr c)) (zU cx mask a.results.toList λt f=>Nc i c t f u)):∃d f,u d f/\qh P cx ⟨m,b,c,d,f⟩:=by
 have⟨y,R,_,G⟩:=mS mask a.ntmps 0 b M;have⟨x,D,E,e,U,t,O,d,g,hl,hp⟩:=Eo (S y G);have e:=qQ _ h.dr _ _ _ e;have⟨B,s⟩:=Au h.ok;rw[s]at e;have I:tL cx cf j a mask i b c=some (d,g):=by
  unfold tL;rw[s];obtain⟨w,ap,A⟩:=c;simp only;rw[R,ed];have e:kc cx cf j mask B ⟨y,.nil⟩ ⟨w,w,A⟩=some (x,D,E):=e;rw[e,ed,ma];have Q:=ph O;rcases U with rfl|rfl<;>(simp only;rw[Q,ed];exact hl)
 have N:x8 ⟨a,mask,i,none⟩=true:=h.ok;have K:qh P cx ⟨m,b,c,d,g⟩:=λk p q l o n=>pW (F:=⟨a,mask,i,none⟩) L jq h.at_ N cf C j b c d g I k p q l o n;rcases hp with hp|hp
 ·grind
 ·exact⟨cn d,g,hp,λk p q l o n=>(K k p q l o n).mono λv av ⟨⟨an,V,X,Y,ae⟩,al⟩=>⟨⟨an,V.cn,X,Y,ae⟩,al⟩⟩
def J6{tb:fy}{c:li}(l:P.follows .mixedOrders=true)(jq:jg P cx){f:aj}{d:Func}{e:DL}(o:Et P cx f d mask e)(i:Bool)(j:List T->H->Nat)(m:∀a b,c.pre a b->a.length<=d.ntmps)
 (n:∀a b,c.pre a b->∀k,m7 k 0 a->W (jB cx (rx P cx tb) (j a b) mask e (d.body.getD .skip) ⟨k,.nil⟩ (hr b)) (zU cx mask d.results.toList λp g=>Nc i b p g (c.post a b))):c.Ok P cx f:=
 λa b h=>by
  have⟨s,g,q,r⟩:=aap l jq o (Eb P cx tb) i (m a b h) (j a b) (n a b h)
  grind
end
def Xb{P:ai}{cx:Ctx}{cf:je}{mask:Nat}(H:P.follows .mixedOrders=true)(jq:jg P cx){p:aj}{c:Func}{w:DL}(j:Et P cx p c mask w)(C:nY P cx cf){b:List T}{m:T->Prop}(hl:mv b=true)(y:b.length<=c.ntmps)(k:Nat)
 (L:∀f,m7 f 0 b->W (jB cx cf k mask w (c.body.getD .skip) ⟨f,.nil⟩ hE) (zU cx mask c.results.toList λA g=>∃a,m a/\LO g A a)):∃a,m a/\lf P cx p b a:=by
 have U:∃a,m a/\∀f,m7 f 0 b->TI.dL f 0=TI.dL f 0->∃d,cn d=a/\tL cx cf k c mask false b hE=some (d,hE):=by
  have⟨l,z,_,s⟩:=mS mask c.ntmps 0 b y;have⟨V,D,g,e,M,A,hr,a,r,I,i⟩:=Eo (L l s);have e:=qQ _ j.dr _ _ _ e;have⟨B,h⟩:=Au j.ok;rw[h]at e;unfold OD at i;have⟨d,i,x⟩:=dI.1 i;simp only[ar]at x;refine⟨a,r,λ_ _ _=>⟨d,x,?_⟩⟩;unfold tL;rw[h];simp only;rw[z,ed];have e:kc cx cf k mask B ⟨l,.nil⟩ ⟨0,0,[]⟩=some (V,D,g):=e;rw[e,ed,ma];have K:=ph hr;rcases M with rfl|rfl<;>(simp only;rw[K,ed];exact I1 I i)
 obtain⟨a,r,G⟩:=U;have⟨l,z,_,s⟩:=mS mask c.ntmps 0 b y;obtain⟨d,rfl,h⟩:=G l s rfl;refine⟨cn d,r,?_⟩;have E:lf P cx p b d:=zv (ls _ hl) λn u v o t q=>
  pW (F:=⟨c,mask,false,none⟩) H jq j.at_ j.ok cf C k b hE d hE h n u v o t q
 intro n u v o g t q;refine(E n u v o g t q).mono λY ae ⟨⟨X,N,O,Q,R⟩,S⟩=>?_;exact⟨⟨X,N.cn,O,Q,R⟩,S⟩
def F1(b:T):Prop:=∃a,b= .bool a
def wM(a:Nat)(d:T)(b:H):nN a d b=some (d,⟨b.size,if b.low<a then b.low else a,b.fG⟩):=by
 obtain⟨f,c,e⟩:=b;show @Bool.rec (λ_=>aa (T×H)) (some (d,⟨f,a,e⟩)) (some (d,⟨f,c,e⟩)) (Nat.blt c a)=_;by_cases hl:c<a
 ·rw[show Nat.blt c a=true by rw[aJ];exact hl,aq hl]
 ·rw[show Nat.blt c a=false by rw[cC];intro g;rw[aJ]at g;omega,ao hl]
def Ji{h:H}(f:Hp h){a d:Nat}(e:a<=h.size){b:Nat}(c:b<a):(⟨a,d,h.fG.drop (h.size-a)⟩:H).get b=h.get b:=by
 rw[H.get_eq,H.get_eq];simp only;rw[aq c,aq J,bU]
 grind
def qK(a b:H)(j:List T){r:T}{k:T->H->Prop}(t:Hp a)(c:Fr a.size (hr a) b)(f:(dW (jn b a.size (jS j)) λq=>some (cn q))=some r)(n:k r a):Nc false a j b k:=by
 have⟨p,f,i⟩:=dI.1 f;simp only[ar]at i;unfold Nc DA;simp only[f];have u:Hp b:=c.hp (by simp_all);have m:a.size<=b.low:=c.low (au _);have s:a.size<=b.size:=c.size;have e:b.fG.drop (b.size-a.size)=a.fG:=by
  apply cW;intro d;rw[bU];rcases aQ d a.size with hi|hi
  ·have h:=c.get (a.size-1-d) J;rw[gU,H.get_eq,H.get_eq,aq J,aq J]at h;rw[show b.size-a.size+d=b.size-1-(a.size-1-d)by omega,h]
   grind
  grind [Hp,bQ]
 obtain⟨l,o,g⟩:=b;unfold uG;simp only;rw[mn,aq (by grind [Hp]),ed,show Nat.ble a.size o=true from cj m];refine⟨p,_,rfl,.inr ?_⟩;rw[i];have:(⟨a.size,a.low,List.drop (Nat.sub l a.size) g⟩:H)=a:=by
  have e:List.drop (Nat.sub l a.size) g=a.fG:=e;rw[e]
 rw[this];exact n
end
section
noncomputable section
variable {cx:Ctx}{mask:Nat}{e:Env}{h:H}
end
end
section
structure hU(n:Nat)(h:H):Prop where
 hp:Hp h
 low:h.low<=h.size
 sz:n<=h.size
theorem hU.cons{c:Nat}{b:H}(a:hU c b)(d:iX):hU c (b.cons d):=⟨by simpa using a.hp,by simp only[Rw];have:=a.low;grind [H.cons],by have:=a.sz;grind [H.cons]⟩
def hU.ne{c:Nat}{a:H}(d:hU c a){b:Nat}(e:b<c):(b=a.size)=False:=by have:=d.sz;grind
def hU.Xa{d c:Nat}{b:H}(a:hU d b)(e:c<=d):hU c b:=⟨a.hp,a.low,aO e a.sz⟩
def Is(c:H)(b:Nat)(g:iX):(dY c b g).low<=c.low:=by
 unfold dY;cases a:c.put b g with
 |none=>simp
 |some h=>
  obtain⟨e,d,j⟩:=c;have a:(gX (Nat.blt b e) (dW (kO j (Nat.sub (Nat.sub e 1) b) g) λf=> @Bool.rec (λ_=>aa H) (some ⟨e,d,f⟩) (some ⟨e,b,f⟩) (Nat.blt b d)))=some h:=a;have⟨_,a⟩:=dQ.1 a;have⟨f,_,a⟩:=dI.1 a;show h.low<=d;cases i:Nat.blt b d<;>rw[i]at a<;>simp only[ar]at a<;>subst a
  ·simp
  ·rw[aJ]at i;grind
theorem hU.put{n:Nat}{a:H}(b:hU n a)(d:Nat)(e:iX):hU n (dY a d e):=⟨by simpa using b.hp,by rw[fJ];exact aO (Is a d e) b.low,by rw[fJ];exact b.sz⟩
structure qU(sz:Nat)(h h':H):Prop where
 get:∀c x,h.get c=some x->x.sz≠sz->h'.get c=some x
 ok:∀n,hU n h->hU n h'
 size:h.size<=h'.size
def qU.refl(d:Nat)(a:H):qU d a a:=⟨λ_ _ b _=>b,λ_ c=>c,au _⟩
def qU.trans{c:Nat}{e f g:H}(a:qU c e f)(b:qU c f g):qU c e g:=⟨λd j k h=>b.get d j (a.get d j k h) h,λi l=>b.ok i (a.ok i l),aO a.size b.size⟩
theorem qU.cons(e:Nat)(a:H)(c:iX):qU e a (a.cons c):=⟨λf h b _=>by have:=H.fa b;rw[dT,ao J];exact b,λg d=>d.cons c,dy⟩
theorem qU.put{d:Nat}{b:H}{a:Nat}{x:iX}(f:b.get a=some x)(i:x.sz=d)(e:iX):qU d b (dY b a e):=⟨λc k h j=>by
 rw[dN f]
 grind,λn g=>g.put a e,dy⟩
def sP.adq{cx:Ctx}{a:H}{d:T}{b:Nat}{e:List T}(r:sP a 0 d b e){n o j:ab}{t v c:Ty}(A:cx.ty n=some t)(B:t.u= .slice j)(C:cx.ty j=some c)(D:cx.ty o=some v)(E:v.u= .slice j)(s:c.size=b)(q:1<=c.bytes)
 {x:T} {xs:List T} (I:a.jw x=some xs) (l:∀y∈xs,y.cells.length=b) (G:(e.length+xs.length)*c.bytes<=70368744177664):
 ∃w k,jc cx a n o d x=some (.val w k)/\sP k 0 w b (e++xs)/\qU b a k:=by
 have F:jc cx a n o d x=jL (a.append c.size c.bytes d xs):=by
  unfold jc rm om;rw[A,ed,D,ed];simp only[B,C,E,I,ed];rw[s,ot l,iH]
 rw[F,s];cases xs with
 |nil=>
  refine⟨d,a,?_,by grind,qU.refl _ _⟩;show jL (gX (pz d) (some (d,a)))=_;rcases r with⟨rfl,_⟩|⟨h,i,p,z,_,rfl,_⟩<;>rfl
 |cons f g=>
  rcases r with⟨rfl,rfl⟩|⟨h,i,p,z,K,rfl,m⟩
  ·refine⟨.arr a.size 0 0 (f::g).length false,a.cons ⟨b,0,0,false,false,f::g⟩,?_,.inr ⟨a.size,0,0,false,aw _,rfl,dy⟩,qU.cons _ _ _⟩;show jL (a.jo b c.bytes [] (f::g))=_;rw[pI l q (by grind)];rfl
  ·refine⟨.arr h (i+1) 0 (e++f::g).length false,dY a h ⟨b,i+1,p+1,false,false,e++f::g⟩,?_,.inr ⟨h,i+1,p+1,false,K,rfl,by rw[dN m,aq rfl]⟩,qU.put m rfl _⟩;show jL (a.mR b c.bytes h i e.length (f::g))=_;rw[w9 m l q G];rfl
def sP.WM{cx:Ctx}{f:H}{o:T}{b:Nat}{i:Type}{a:i->T}{e:List i}(s:sP f 0 o b (e.map a)){g k:ab}{n d:Ty}(l:cx.ty g=some n)(m:n.u= .slice k)(p:cx.ty k=some d)(t:d.size=b)(q:1<=d.bytes)
 (r:∀x,MK (a x)=b) (xs:List i) (v:(e.length+xs.length)*d.bytes<=70368744177664):
 ∃h c,jc cx f g g o (sl (xs.map a))=some (.val h c)/\sP c 0 h b ((e++xs).map a)/\qU b f c:=by
 have⟨h,c,w,y,z⟩:=s.adq (x:=sl (xs.map a)) (xs:=xs.map a) l m p l m t q dy (by simpa using λj _=>show(a j).cells.length=b from r j) (by grind)
 grind
def sP.LF{cx:Ctx}{c:H}{n:T}{a:Nat}{i:Type}{b:i->T}{g:List i}(r:sP c 0 n a (g.map b)){h j:ab}{m e:Ty}(k:cx.ty h=some m)(l:m.u= .slice j)(o:cx.ty j=some e)(s:e.size=a)(p:1<=e.bytes)
 (q:∀x,MK (b x)=a) (x:i) (y:(g.length+1)*e.bytes<=70368744177664):
 ∃f d,jc cx (c.cons ⟨a,0,0,true,false,[b x]⟩) h h n (.arr c.size 0 0 1 false)=some (.val f d)/\sP d 0 f a ((g++[x]).map b)/\qU a c d:=by
 have⟨f,d,t,v,w⟩:=(r.cons ⟨a,0,0,true,false,[b x]⟩).adq (x:= .arr c.size 0 0 1 false) (xs:=[b x]) k l o k l s p (by rw[ik];simp) (by simpa using show(b x).cells.length=a from q x) (by grind);exact⟨f,d,t,by rw[List.map_append];exact v,(qU.cons _ _ _).trans w⟩
def rO{i:Env->H->Out}(b:Nat)(e:Nat->fZ->H->Prop){h:iR}
 (n:∀k c a,k<=b->e k c a->W (i ⟨c,.nil⟩ a) (yD (λd a=>d.tmps= .nil/\∃f,k<f/\f<=b/\e f d.vars a) h)) {g:Nat} (o:b<g) {k:Nat} (l:k<=b) {c:fZ} {a:H} (j:e k c a):W (oQ i g ⟨c,.nil⟩ a) h:=by
 refine SY (σ:=Nat) (I:=λk d a=>k<=b/\d.tmps= .nil/\e k d.vars a) (m:=λk=>b-k) ?_ g k _ _ J ⟨l,rfl,j⟩;rintro k ⟨c,p⟩ a ⟨l,ht,j⟩
 grind
section
variable {cx:Ctx}
end
end
section
section
variable {P:ai}{cx:Ctx}
def Jz{f:aj}{t:List T}{b c:H}{F G:T}(N:qh P cx ⟨f,t,b,F,c⟩)(X:Hp c)(z:b.size<=c.size)
 (O:∀a h,a<b.size->c.get a=some h->c.get a=b.get a\/∀m∈fF h.fc,qf b.size m) (R:jn c b.size F=some G):
 qh P cx ⟨f,t,b,cn G,⟨b.size,c.low,c.fG.drop (c.size-b.size)⟩⟩:=by
 intro K w r L q i;refine(N K w r L q i).mono λm ap ⟨⟨s,ae,D,g,j⟩,p⟩=>?_;have v:∀a e,r a=some e->a<b.size:=λa e d=>q.fa d;have j:yS r s b.size c.size:=j;have hl:∀a e h,a<b.size->s a=some e->c.get a=some h->∀m∈fF h.fc,qf b.size m:=by
  intro a e h d i B;rcases O a h d B with he|he
  ·rcases j.2.1 a (by rw[i];simp)with k|k
   ·have⟨I,M⟩:=Option.ne_none_iff_exists'.1 k;have⟨av,o,W⟩:=q.box a I M;rw[<-he,B]at o;simp only[ar]at o;subst o;exact W.low v
   ·omega
  omega
 have u:=St.cut (low:=c.low) D z hl;have x:∀a,a<b.size->(⟨b.size,c.low,c.fG.drop (c.size-b.size)⟩:H).get a=c.get a:=λa d=>Ji X z d;refine⟨⟨mQ b.size s,(vN D ae R).cn,u,⟨⟨g.ext.size,λY S V=>?_,λa e d=>?_,g.ext.pM,g.ext.kept⟩,g.os,g.tape,g.output⟩,au _,λa d=>?_,λa E l=>absurd E (by show¬b.size<=a;have l:a<b.size:=l;omega)⟩,?_⟩
 ·have⟨al,an⟩:=g.ext.nZ Y S V
  grind [xz]
 ·rw[uP (v a e d)];exact g.ext.mu a e d
 ·left;have⟨e,i⟩:=Option.ne_none_iff_exists'.1 d;have⟨E,l⟩:=kj i;rcases j.2.1 a (by rw[l];simp)with k|k
  ·exact k
  ·omega
 ·refine⟨u.wf,au _,p.low,λa d U=>?_,λa y C=>?_⟩
  ·rw[x a d];exact p.kU a d U
  ·rw[x a (H.fa C)];exact p.ver a y C
def Ld{c d:H}(e:∀a,d.get a=c.get a)(n:Nat):∀b,freeze d n b=freeze c n b:=by
 grind [freeze,fQ,dW,takeN,j8,Nat.beq,gX,Nat.ble]
def tW{a b:H}(i:∀e,b.get e=a.get e)(n:Nat)(c:T):jn b n c=jn a n c:=by
 have g:iN b n=iN a n:=by funext d;cases d<;>(unfold iN;simp only[Ld i])
 have h:kw b n=kw a n:=by funext d;cases d<;>(unfold kw;simp only[g])
 cases c<;>(unfold jn;simp only[h])
end
def FT(e:H)(c:Nat->Prop):Nat->T->T->Prop
 |0,_,_=>False
 |d+1,a,g=>(j4 a=true/\(∀b,a≠ .agg b)/\g=cn a)\/
  (∃h l o m f j k,a= .arr h l o m f/\c h/\e.jw a=some j/\iF (FT e c d) j k/\g=sl k)\/
  (∃b i,a= .agg b/\iF (FT e c d) b i/\g= .agg i)
def iF.imp_mem{α h:Type}{d R':α->h->Prop}{c:List α}{g:List h}(i:iF d c g)(e:∀a∈c,∀b,d a b->R' a b):iF R' c g:=by
 induction i with
 |nil=>exact .nil
 |cons a _ j=>exact .cons (e _ dy _ a) (j λk l b=>e k (by grind) b)
def qJ{α d:Type}{f:α->aa d}{b:List α}{c:List d}(g:iF (λa e=>f a=some e) b c):fQ f b=some c:=by
 induction g with
 |nil=>rfl
 |cons a _ h=>rw[jO,a,h];rfl
def FT.ye{h:H}{V:Nat->Prop}:∀{d:Nat} {v t:T},FT h V d v t->TI.ye h d v=some t:=by
 intro d;induction d with
 |zero=>intro v t c;exact c.elim
 |succ d g=>
  intro v t c;rcases c with⟨j,k,rfl⟩|⟨e,p,u,s,f,q,r,rfl,_,l,a,rfl⟩|⟨m,o,rfl,a,rfl⟩
  ·unfold TI.ye;rw[tK h 0 d v j k];rfl
  ·rw[yG,l,ed,qJ (a.imp λi e b=>g b)];rfl
  ·rw[UD,qJ (a.imp λi e b=>g b)];rfl
def I6{c d:H}{a b g e:Nat}{f:Bool}(h:d.get a=c.get a):d.jw (.arr a b g e f)=c.jw (.arr a b g e f):=by
 rw[ik,ik,h]
def FT.mono{k h':H}{i j:Nat->Prop}(m:∀a,i a->j a/\h'.get a=k.get a):∀{b:Nat} {e d:T},FT k i b e d->FT h' j b e d:=by
 intro b;induction b with
 |zero=>intro e d c;exact c.elim
 |succ b o=>
  intro e d c;rcases c with c|⟨a,s,x,w,f,t,u,rfl,l,v,g,rfl⟩|⟨q,r,rfl,g,rfl⟩
  ·exact .inl c
  ·exact .inr (.inl ⟨a,s,x,w,f,t,u,rfl,(m a l).1,by rw[I6 (m a l).2];exact v,g.imp λp a h=>o h,rfl⟩)
  ·exact .inr (.inr ⟨q,r,rfl,g.imp λp a h=>o h,rfl⟩)
def FT.deep{k:H}{j:Nat->Prop}:∀{b a:Nat} {e d:T},b<=a->FT k j b e d->FT k j a e d:=by
 intro b;induction b with
 |zero=>intro a e d _ c;exact c.elim
 |succ b l=>
  intro a e d y c;obtain⟨a,rfl⟩:∃q,a=q+1:=⟨a-1,J⟩;rcases c with c|⟨g,r,x,w,f,s,t,rfl,u,v,h,rfl⟩|⟨o,p,rfl,h,rfl⟩
  ·exact .inl c
  ·exact .inr (.inl ⟨g,r,x,w,f,s,t,rfl,u,v,h.imp λm g i=>l J i,rfl⟩)
  ·exact .inr (.inr ⟨o,p,rfl,h.imp λm g i=>l J i,rfl⟩)
def FT.fz{h:H}{V:Nat->Prop}{v t:T}(l:FT h V 12 v t):TI.fz h v=some t:=by
 rcases l with⟨i,e,rfl⟩|⟨g,o,s,r,f,p,q,rfl,e,j,a,rfl⟩|⟨b,c,rfl,a,rfl⟩
 ·show(dW (iN h 0 v) λv=>some (cn v))=_;rw[rk h i e];rfl
 ·rw[wQ,j,ed,qJ (a.imp λm g k=>k.ye)];rfl
 ·have:=FT.ye (h:=h) (V:=V) (d:=12) (v:= .agg b) (t:= .agg c) (.inr (.inr ⟨b,c,rfl,a,rfl⟩));exact this
@[simp]def fV (d:H) (b:Nat->Prop) (c:Nat) (a:ak) (n:Int):FT d b (c+1) (.int a n) (.int a n):= .inl ⟨dy,dy,dy⟩
@[simp]def ko (d:H) (b:Nat->Prop) (c:Nat) (a:List Nat):FT d b (c+1) (.str a) (.str a):= .inl ⟨dy,dy,dy⟩
@[simp]def Nf (d:H) (b:Nat->Prop) (c:Nat) (a:Bool):FT d b (c+1) (.bool a) (.bool a):= .inl ⟨dy,dy,dy⟩
theorem pQ(g:H)(d:Nat->Prop)(e:Nat){a:List T}(c:∀b∈a,cn b=b):FT g d (e+1) (sl a) (sl a):=by
 refine .inl ⟨dy,by cases a<;>simp[sl],?_⟩;rw[MM];congr 1;induction a with
 |nil=>rfl
 |cons b k h=>rw[aP,c b dy,<-h λi j=>c i (by grind)]
def jh(c:H)(a:Nat->Prop)(b:Nat)(f:Bool):FT c a (b+1) (.dK [] f) (sl []):= .inl ⟨dy,dy,by rw[nP];rfl⟩
section
variable {cx:Ctx}{cf:je}{mask n:Nat}{dl:DL}
def fq(b e:Code)(c:Env)(d:H)(a:iR):CK (some (.bool true)) cx cf n mask dl b e c d a=W (jB cx cf n mask dl b c d) a:=rfl
def eZ(e b:Code)(c:Env)(d:H)(a:iR):CK (some (.bool false)) cx cf n mask dl e b c d a=W (jB cx cf n mask dl b c d) a:=rfl
def ee{d:Bool}{e g:Code}{b:Env}{c:H}{a:iR}(h:d=true->W (jB cx cf n mask dl e b c) a)(i:d=false->W (jB cx cf n mask dl g b c) a):CK (some (.bool d)) cx cf n mask dl e g b c a:=by
 simp_all
end
def wR(P:ai)(cx:Ctx)(f:aj){α:Type}(A:α->List T)(pre:α->Prop)(Q:α->T->Prop):fP:=
 ⟨α,A,pre,λa=>Classical.epsilon λc=>(∀b,A b=A a->Q b c)/\lf P cx f (A a) c,λa b d=>by grind⟩
section
variable {P:ai}{cx:Ctx}{f:aj}{α:Type}{A:α->List T}{pre:α->Prop}{Q:α->T->Prop}
theorem LT(e:∀a b,A a=A b->a=b){a:α}(g:∃c,Q a c/\lf P cx f (A a) c):Q a ((wR P cx f A pre Q).R a)/\lf P cx f (A a) ((wR P cx f A pre Q).R a):=by
 have d:∃c,(∀b,A b=A a->Q b c)/\lf P cx f (A a) c:=by
  grind
 have:=Classical.epsilon_spec d;exact⟨this.1 a rfl,this.2⟩
theorem aaq(d:∀a b,A a=A b->a=b)(g:∀a,pre a->∃c,Q a c/\lf P cx f (A a) c):(wR P cx f A pre Q).Ok P cx f:=λa e=>(LT d (g a e)).2
def yV{tb:fy}{c:Func}{mask:Nat}{dl:DL}(i:P.follows .mixedOrders=true)(jq:jg P cx)(l:Et P cx f c mask dl)(n:α->Nat)(o:∀a d,A a=A d->a=d)(hl:∀a,mv (A a)=true)(j:∀a,(A a).length<=c.ntmps)
 (k:∀a,pre a->∀g,m7 g 0 (A a)->W (jB cx (rx P cx tb) (n a) mask dl (c.body.getD .skip) ⟨g,.nil⟩ hE) (zU cx mask c.results.toList λm e=>∃b,Q a b/\LO e m b)):(wR P cx f A pre Q).Ok P cx f/\∀a,pre a->Q a ((wR P cx f A pre Q).R a):=by
 have e:∀a,pre a->∃b,Q a b/\lf P cx f (A a) b:=λa h=>Xb i jq l (Eb P cx tb) (hl a) (j a) (n a) (k a h)
 grind [LT,aaq]
def oa(P:ai)(cx:Ctx)(f:aj)(A:α->List T)(pre:α->Prop)(Q:α->T->Prop):Prop:=(wR P cx f A pre Q).Ok P cx f/\∀a,pre a->Q a ((wR P cx f A pre Q).R a)
def Cc(d:α->Nat)(step:∀c,oa P cx f A (λa=>pre a/\d a<c) Q->oa P cx f A (λa=>pre a/\d a<c+1) Q):oa P cx f A pre Q:=by
 have e:∀c,oa P cx f A (λa=>pre a/\d a<c) Q:=by
  intro c;induction c with
  |zero=>exact⟨λa b=>absurd b.2 (Nat.not_lt_zero _),λa b=>absurd b.2 (Nat.not_lt_zero _)⟩
  |succ c g=>simp_all
 exact⟨λa b=>(e (d a+1)).1 a ⟨b,c8 _⟩,λa b=>(e (d a+1)).2 a ⟨b,c8 _⟩⟩
end
def Or(b:Prop)(c:T):Prop:=∃a,c= .bool a/\(a=true->b)
@[simp]def ZX (b:Prop) (a:Bool):Or b (.bool a)=(a=true->b):=by
 unfold Or;apply propext;constructor
 ·simp
 ·simp
@[simp]def acI (a:Bool):F1 (.bool a)=True:=by simp[F1]
end
end
end Go.TI
namespace Go.Proofs.YtajpdafdickapaaGreatDoor
noncomputable section
open Go Go.TI Tryz
def fM(d:List (aj×fP)){b:fP}{g:aj}{c:Func}{e:Nat}{f:DL}(m:Et prog cx g c e f)(h:b.α->Nat)(hl:∀a,mv (b.A a)=true)
 (l:∀a,b.pre a->∀i,m7 i 0 (b.A a)->W (jB cx (rx prog cx ⟨pt d,ht []⟩) (h a) e f (c.body.getD .skip) ⟨i,.nil⟩ hE) (zU cx e c.results.toList λd j=>LO j d (b.R a)))
 (k:∀a,Nat.ble (b.A a).length c.ntmps=true:=by intro _;rfl):b.Ok prog cx g:=yW (tb:=⟨pt d,ht []⟩) iL iB m h hl (λa=>bh (k a)) l
def jk(d:List (aj×fP)){e:Type}{b:e->List T}{l:e->Prop}{g:e->T->Prop}{j:aj}{c:Func}{f:Nat}{i:DL}(s:Et prog cx j c f i)(k:e->Nat)(p:∀a h,b a=b h->a=h)
 (r:∀a,l a->∀n,m7 n 0 (b a)->W (jB cx (rx prog cx ⟨pt d,ht []⟩) (k a) f i (c.body.getD .skip) ⟨n,.nil⟩ hE) (zU cx f c.results.toList λd o=>∃m,g a m/\LO o d m))
 (hl:∀a,mv (b a)=true:=by simp) (q:∀a,Nat.ble (b a).length c.ntmps=true:=by intro _;rfl):oa prog cx j b l g:=yV (tb:=⟨pt d,ht []⟩) iL iB s k p hl (λa=>bh (q a)) r
structure io where
 name:List Nat
 index:Int
 size:Int
 ud:Bool
 jG:Int
 deriving DecidableEq,Inhabited
def io.cs(a:io):List T:=[.str a.name,Z a.index,Z a.size,.bool a.ud,Z a.jG]
def io.t(a:io):T:= .agg a.cs
@[simp]def io.ag (a:io):qV a.t [.str a.name,Z a.index,Z a.size,.bool a.ud,Z a.jG] 5:=by
 unfold io.t io.cs;exact⟨rfl,rfl,λ_ _=>rfl,rfl,by simp[jR],λ_=>by simp,λ_ _=>by simp,dy,dy⟩
@[simp]theorem io.fold (a0:List Nat) (a1:Int) (a2:Int) (a3:Bool) (a4:Int):T.agg [.str a0,Z a1,Z a2,.bool a3,Z a4]=io.t ⟨a0,a1,a2,a3,a4⟩:=rfl
@[simp]theorem io.eta (a:io):io.mk a.name a.index a.size a.ud a.jG=a:=rfl
def io.inj{a b:io}(c:a.t=b.t):a=b:=by
 rcases a with⟨_,_,_,_,_⟩;rcases b with⟨_,_,_,_,_⟩;simp only[io.t,io.cs,T.agg.injEq,aL]at c;obtain⟨d,e,f,g,h,_⟩:=c;obtain rfl:=ni d;obtain rfl:=il e;obtain rfl:=il f;obtain rfl:=pG g;obtain rfl:=il h;rfl
structure iI where
 name:List Nat
 rW:Bool
 deriving DecidableEq,Inhabited
def iI.cs(a:iI):List T:=[.str a.name,.bool a.rW]
def iI.t(a:iI):T:= .agg a.cs
@[simp]def iI.ag (a:iI):qV a.t [.str a.name,.bool a.rW] 2:=by
 unfold iI.t iI.cs;exact⟨rfl,rfl,λ_ _=>rfl,rfl,by simp[jR],λ_=>by simp,λ_ _=>by simp,dy,dy⟩
@[simp]theorem iI.fold (a0:List Nat) (a1:Bool):T.agg [.str a0,.bool a1]=iI.t ⟨a0,a1⟩:=rfl
@[simp]theorem iI.eta (a:iI):iI.mk a.name a.rW=a:=rfl
def iI.inj{a b:iI}(c:a.t=b.t):a=b:=by
 rcases a with⟨_,_⟩;rcases b with⟨_,_⟩;simp only[iI.t,iI.cs,T.agg.injEq,aL]at c;obtain⟨d,e,_⟩:=c;obtain rfl:=ni d;obtain rfl:=pG e;rfl
structure jb where
 name:List Nat
 kJ:Int
 deriving DecidableEq,Inhabited
def jb.cs(a:jb):List T:=[.str a.name,Z a.kJ]
def jb.t(a:jb):T:= .agg a.cs
@[simp]def jb.ag (a:jb):qV a.t [.str a.name,Z a.kJ] 2:=by
 unfold jb.t jb.cs;exact⟨rfl,rfl,λ_ _=>rfl,rfl,by simp[jR],λ_=>by simp,λ_ _=>by simp,dy,dy⟩
@[simp]theorem jb.fold (a0:List Nat) (a1:Int):T.agg [.str a0,Z a1]=jb.t ⟨a0,a1⟩:=rfl
@[simp]theorem jb.eta (a:jb):jb.mk a.name a.kJ=a:=rfl
def jb.inj{a b:jb}(c:a.t=b.t):a=b:=by
 rcases a with⟨_,_⟩;rcases b with⟨_,_⟩;simp only[jb.t,jb.cs,T.agg.injEq,aL]at c;obtain⟨d,e,_⟩:=c;obtain rfl:=ni d;obtain rfl:=il e;rfl
structure iK where
 dP:Int
 stmt:Int
 vi:Int
 deriving DecidableEq,Inhabited
def iK.cs(a:iK):List T:=[Z a.dP,Z a.stmt,Z a.vi]
def iK.t(a:iK):T:= .agg a.cs
@[simp]def iK.ag (a:iK):qV a.t [Z a.dP,Z a.stmt,Z a.vi] 3:=by
 unfold iK.t iK.cs;exact⟨rfl,rfl,λ_ _=>rfl,rfl,by simp[jR],λ_=>by simp,λ_ _=>by simp,dy,dy⟩
@[simp]theorem iK.fold (a0:Int) (a1:Int) (a2:Int):T.agg [Z a0,Z a1,Z a2]=iK.t ⟨a0,a1,a2⟩:=rfl
@[simp]theorem iK.eta (a:iK):iK.mk a.dP a.stmt a.vi=a:=rfl
def iK.inj{a b:iK}(c:a.t=b.t):a=b:=by
 rcases a with⟨_,_,_⟩;rcases b with⟨_,_,_⟩;simp only[iK.t,iK.cs,T.agg.injEq,aL]at c;obtain⟨d,e,f,_⟩:=c;obtain rfl:=il d;obtain rfl:=il e;obtain rfl:=il f;rfl
structure dZ where
 cells:List io
 ei:List iI
 gJ:List jb
 d8:List (List Nat)
 dH:List (List Nat)
 iJ:List iK
 deriving DecidableEq,Inhabited
def dZ.cs(a:dZ):List T:=[sl (a.cells.map io.t),sl (a.ei.map iI.t),sl (a.gJ.map jb.t),sl (a.d8.map T.str),sl (a.dH.map T.str),sl (a.iJ.map iK.t)]
def dZ.t(a:dZ):T:= .agg a.cs
@[simp]def dZ.ag (a:dZ):qV a.t [sl (a.cells.map io.t),sl (a.ei.map iI.t),sl (a.gJ.map jb.t),sl (a.d8.map T.str),sl (a.dH.map T.str),sl (a.iJ.map iK.t)] 6:=by
 unfold dZ.t dZ.cs;exact⟨rfl,rfl,λ_ _=>rfl,rfl,by simp[jR],λ_=>by simp,λ_ _=>by simp,dy,dy⟩
@[simp]theorem dZ.fold (a0:List io) (a1:List iI) (a2:List jb) (a3:List (List Nat)) (a4:List (List Nat)) (a5:List iK):T.agg [sl (a0.map io.t),sl (a1.map iI.t),sl (a2.map jb.t),sl (a3.map T.str),sl (a4.map T.str),sl (a5.map iK.t)]=dZ.t ⟨a0,a1,a2,a3,a4,a5⟩:=rfl
@[simp]theorem dZ.eta (a:dZ):dZ.mk a.cells a.ei a.gJ a.d8 a.dH a.iJ=a:=rfl
def dZ.inj{a b:dZ}(c:a.t=b.t):a=b:=by
 rcases a with⟨_,_,_,_,_,_⟩;rcases b with⟨_,_,_,_,_,_⟩;simp only[dZ.t,dZ.cs,T.agg.injEq,aL]at c;obtain⟨d,e,f,g,h,i,_⟩:=c;obtain rfl:=iw (λ_ _=>io.inj) _ _ d;obtain rfl:=iw (λ_ _=>iI.inj) _ _ e;obtain rfl:=iw (λ_ _=>jb.inj) _ _ f;obtain rfl:=iw (λ_ _=>ni) _ _ g;obtain rfl:=iw (λ_ _=>ni) _ _ h;obtain rfl:=iw (λ_ _=>iK.inj) _ _ i;rfl
structure dU where
 iZ:Int
 eJ:List Int
 deriving DecidableEq,Inhabited
def dU.cs(a:dU):List T:=[Z a.iZ,sl (a.eJ.map (T.int .i64))]
def dU.t(a:dU):T:= .agg a.cs
@[simp]def dU.ag (a:dU):qV a.t [Z a.iZ,sl (a.eJ.map (T.int .i64))] 2:=by
 unfold dU.t dU.cs;exact⟨rfl,rfl,λ_ _=>rfl,rfl,by simp[jR],λ_=>by simp,λ_ _=>by simp,dy,dy⟩
@[simp]theorem dU.fold (a0:Int) (a1:List Int):T.agg [Z a0,sl (a1.map (T.int .i64))]=dU.t ⟨a0,a1⟩:=rfl
@[simp]theorem dU.eta (a:dU):dU.mk a.iZ a.eJ=a:=rfl
def dU.inj{a b:dU}(c:a.t=b.t):a=b:=by
 rcases a with⟨_,_⟩;rcases b with⟨_,_⟩;simp only[dU.t,dU.cs,T.agg.injEq,aL]at c;obtain⟨d,e,_⟩:=c;obtain rfl:=il d;obtain rfl:=iw (λ_ _=>il) _ _ e;rfl
structure dM where
 iE:Int
 cond:Int
 atomic:Bool
 deriving DecidableEq,Inhabited
def dM.cs(a:dM):List T:=[Z a.iE,Z a.cond,.bool a.atomic]
def dM.t(a:dM):T:= .agg a.cs
@[simp]def dM.ag (a:dM):qV a.t [Z a.iE,Z a.cond,.bool a.atomic] 3:=by
 unfold dM.t dM.cs;exact⟨rfl,rfl,λ_ _=>rfl,rfl,by simp[jR],λ_=>by simp,λ_ _=>by simp,dy,dy⟩
@[simp]theorem dM.fold (a0:Int) (a1:Int) (a2:Bool):T.agg [Z a0,Z a1,.bool a2]=dM.t ⟨a0,a1,a2⟩:=rfl
@[simp]theorem dM.eta (a:dM):dM.mk a.iE a.cond a.atomic=a:=rfl
def dM.inj{a b:dM}(c:a.t=b.t):a=b:=by
 rcases a with⟨_,_,_⟩;rcases b with⟨_,_,_⟩;simp only[dM.t,dM.cs,T.agg.injEq,aL]at c;obtain⟨d,e,f,_⟩:=c;obtain rfl:=il d;obtain rfl:=il e;obtain rfl:=pG f;rfl
structure fH where
 ei:List dU
 tx:Int
 done:List Bool
 dH:List dM
 deriving DecidableEq,Inhabited
def fH.cs(a:fH):List T:=[sl (a.ei.map dU.t),Z a.tx,sl (a.done.map T.bool),sl (a.dH.map dM.t)]
def fH.t(a:fH):T:= .agg a.cs
@[simp]def fH.ag (a:fH):qV a.t [sl (a.ei.map dU.t),Z a.tx,sl (a.done.map T.bool),sl (a.dH.map dM.t)] 4:=by
 unfold fH.t fH.cs;exact⟨rfl,rfl,λ_ _=>rfl,rfl,by simp[jR],λ_=>by simp,λ_ _=>by simp,dy,dy⟩
@[simp]theorem fH.fold (a0:List dU) (a1:Int) (a2:List Bool) (a3:List dM):T.agg [sl (a0.map dU.t),Z a1,sl (a2.map T.bool),sl (a3.map dM.t)]=fH.t ⟨a0,a1,a2,a3⟩:=rfl
@[simp]theorem fH.eta (a:fH):fH.mk a.ei a.tx a.done a.dH=a:=rfl
def fH.inj{a b:fH}(c:a.t=b.t):a=b:=by
 rcases a with⟨_,_,_,_⟩;rcases b with⟨_,_,_,_⟩;simp only[fH.t,fH.cs,T.agg.injEq,aL]at c;obtain⟨d,e,f,g,_⟩:=c;obtain rfl:=iw (λ_ _=>dU.inj) _ _ d;obtain rfl:=il e;obtain rfl:=iw (λ_ _=>pG) _ _ f;obtain rfl:=iw (λ_ _=>dM.inj) _ _ g;rfl
structure ew where
 fj:fH
 cells:List Int
 d8:List Int
 count:List Int
 deriving DecidableEq,Inhabited
def ew.cs(a:ew):List T:=[sl (a.fj.ei.map dU.t),Z a.fj.tx,sl (a.fj.done.map T.bool),sl (a.fj.dH.map dM.t),sl (a.cells.map (T.int .i64)),sl (a.d8.map (T.int .i64)),sl (a.count.map (T.int .i64))]
def ew.t(a:ew):T:= .agg a.cs
@[simp]def ew.ag (a:ew):qV a.t [sl (a.fj.ei.map dU.t),Z a.fj.tx,sl (a.fj.done.map T.bool),sl (a.fj.dH.map dM.t),sl (a.cells.map (T.int .i64)),sl (a.d8.map (T.int .i64)),sl (a.count.map (T.int .i64))] 7:=by
 unfold ew.t ew.cs;exact⟨rfl,rfl,λ_ _=>rfl,rfl,by simp[jR],λ_=>by simp,λ_ _=>by simp,dy,dy⟩
@[simp]theorem ew.fold (a0:List dU) (a1:Int) (a2:List Bool) (a3:List dM) (a4:List Int) (a5:List Int) (a:List Int):T.agg [sl (a0.map dU.t),Z a1,sl (a2.map T.bool),sl (a3.map dM.t),sl (a4.map (T.int .i64)),sl (a5.map (T.int .i64)),sl (a.map (T.int .i64))]=ew.t ⟨⟨a0,a1,a2,a3⟩,a4,a5,a⟩:=rfl
@[simp]theorem ew.eta (a:ew):ew.mk a.fj a.cells a.d8 a.count=a:=rfl
def ew.inj{a b:ew}(c:a.t=b.t):a=b:=by
 rcases a with⟨⟨_,_,_,_⟩,_,_,_⟩;rcases b with⟨⟨_,_,_,_⟩,_,_,_⟩;simp only[ew.t,ew.cs,T.agg.injEq,aL]at c;obtain⟨d,e,f,g,h,i,j,_⟩:=c;obtain rfl:=iw (λ_ _=>dU.inj) _ _ d;obtain rfl:=il e;obtain rfl:=iw (λ_ _=>pG) _ _ f;obtain rfl:=iw (λ_ _=>dM.inj) _ _ g;obtain rfl:=iw (λ_ _=>il) _ _ h;obtain rfl:=iw (λ_ _=>il) _ _ i;obtain rfl:=iw (λ_ _=>il) _ _ j;rfl
structure ej where
 dP:Int
 kind:Int
 obj:Int
 value:Int
 ji:Int
 mt:List Int
 uN:List Int
 deriving DecidableEq,Inhabited
def ej.cs(a:ej):List T:=[Z a.dP,Z a.kind,Z a.obj,Z a.value,Z a.ji,sl (a.mt.map (T.int .i64)),sl (a.uN.map (T.int .i64))]
def ej.t(a:ej):T:= .agg a.cs
@[simp]def ej.ag (a:ej):qV a.t [Z a.dP,Z a.kind,Z a.obj,Z a.value,Z a.ji,sl (a.mt.map (T.int .i64)),sl (a.uN.map (T.int .i64))] 7:=by
 unfold ej.t ej.cs;exact⟨rfl,rfl,λ_ _=>rfl,rfl,by simp[jR],λ_=>by simp,λ_ _=>by simp,dy,dy⟩
@[simp]theorem ej.fold (a0:Int) (a1:Int) (a2:Int) (a3:Int) (a4:Int) (a5:List Int) (a:List Int):T.agg [Z a0,Z a1,Z a2,Z a3,Z a4,sl (a5.map (T.int .i64)),sl (a.map (T.int .i64))]=ej.t ⟨a0,a1,a2,a3,a4,a5,a⟩:=rfl
@[simp]theorem ej.eta (a:ej):ej.mk a.dP a.kind a.obj a.value a.ji a.mt a.uN=a:=rfl
def ej.inj{a b:ej}(c:a.t=b.t):a=b:=by
 rcases a with⟨_,_,_,_,_,_,_⟩;rcases b with⟨_,_,_,_,_,_,_⟩;simp only[ej.t,ej.cs,T.agg.injEq,aL]at c;obtain⟨d,e,f,g,h,i,j,_⟩:=c;obtain rfl:=il d;obtain rfl:=il e;obtain rfl:=il f;obtain rfl:=il g;obtain rfl:=il h;obtain rfl:=iw (λ_ _=>il) _ _ i;obtain rfl:=iw (λ_ _=>il) _ _ j;rfl
structure dR where
 ez:dZ
 start:Int
 jG:ew
 dJ:List ej
 deriving DecidableEq,Inhabited
def dR.cs(a:dR):List T:=[sl (a.ez.cells.map io.t),sl (a.ez.ei.map iI.t),sl (a.ez.gJ.map jb.t),sl (a.ez.d8.map T.str),sl (a.ez.dH.map T.str),sl (a.ez.iJ.map iK.t),Z a.start,sl (a.jG.fj.ei.map dU.t),Z a.jG.fj.tx,sl (a.jG.fj.done.map T.bool),sl (a.jG.fj.dH.map dM.t),sl (a.jG.cells.map (T.int .i64)),sl (a.jG.d8.map (T.int .i64)),sl (a.jG.count.map (T.int .i64)),sl (a.dJ.map ej.t)]
def dR.t(a:dR):T:= .agg a.cs
@[simp]def dR.ag (a:dR):qV a.t [sl (a.ez.cells.map io.t),sl (a.ez.ei.map iI.t),sl (a.ez.gJ.map jb.t),sl (a.ez.d8.map T.str),sl (a.ez.dH.map T.str),sl (a.ez.iJ.map iK.t),Z a.start,sl (a.jG.fj.ei.map dU.t),Z a.jG.fj.tx,sl (a.jG.fj.done.map T.bool),sl (a.jG.fj.dH.map dM.t),sl (a.jG.cells.map (T.int .i64)),sl (a.jG.d8.map (T.int .i64)),sl (a.jG.count.map (T.int .i64)),sl (a.dJ.map ej.t)] 15:=by
 unfold dR.t dR.cs;exact⟨rfl,rfl,λ_ _=>rfl,rfl,by simp[jR],λ_=>by simp,λ_ _=>by simp,dy,dy⟩
@[simp]theorem dR.fold (a0:List io) (a1:List iI) (a2:List jb) (a3:List (List Nat)) (a4:List (List Nat)) (a5:List iK) (f:Int) (g:List dU) (h:Int) (i:List Bool) (a:List dM) (b:List Int) (c:List Int) (d:List Int) (e:List ej):T.agg [sl (a0.map io.t),sl (a1.map iI.t),sl (a2.map jb.t),sl (a3.map T.str),sl (a4.map T.str),sl (a5.map iK.t),Z f,sl (g.map dU.t),Z h,sl (i.map T.bool),sl (a.map dM.t),sl (b.map (T.int .i64)),sl (c.map (T.int .i64)),sl (d.map (T.int .i64)),sl (e.map ej.t)]=dR.t ⟨⟨a0,a1,a2,a3,a4,a5⟩,f,⟨⟨g,h,i,a⟩,b,c,d⟩,e⟩:=rfl
@[simp]theorem dR.eta (a:dR):dR.mk a.ez a.start a.jG a.dJ=a:=rfl
def dR.inj{a b:dR}(c:a.t=b.t):a=b:=by
 rcases a with⟨⟨_,_,_,_,_,_⟩,_,⟨⟨_,_,_,_⟩,_,_,_⟩,_⟩;rcases b with⟨⟨_,_,_,_,_,_⟩,_,⟨⟨_,_,_,_⟩,_,_,_⟩,_⟩;simp only[dR.t,dR.cs,T.agg.injEq,aL]at c;obtain⟨d,e,k,l,m,n,o,p,q,r,f,g,h,i,j,_⟩:=c;obtain rfl:=iw (λ_ _=>io.inj) _ _ d;obtain rfl:=iw (λ_ _=>iI.inj) _ _ e;obtain rfl:=iw (λ_ _=>jb.inj) _ _ k;obtain rfl:=iw (λ_ _=>ni) _ _ l;obtain rfl:=iw (λ_ _=>ni) _ _ m;obtain rfl:=iw (λ_ _=>iK.inj) _ _ n;obtain rfl:=il o;obtain rfl:=iw (λ_ _=>dU.inj) _ _ p;obtain rfl:=il q;obtain rfl:=iw (λ_ _=>pG) _ _ r;obtain rfl:=iw (λ_ _=>dM.inj) _ _ f;obtain rfl:=iw (λ_ _=>il) _ _ g;obtain rfl:=iw (λ_ _=>il) _ _ h;obtain rfl:=iw (λ_ _=>il) _ _ i;obtain rfl:=iw (λ_ _=>ej.inj) _ _ j;rfl
structure im where
 kind:Int
 a:Int
 b:Int
 c:Int
 d:Int
 iS:List Int
 deriving DecidableEq,Inhabited
def im.cs(e:im):List T:=[Z e.kind,Z e.a,Z e.b,Z e.c,Z e.d,sl (e.iS.map (T.int .i64))]
def im.t(a:im):T:= .agg a.cs
@[simp]def im.ag (e:im):qV e.t [Z e.kind,Z e.a,Z e.b,Z e.c,Z e.d,sl (e.iS.map (T.int .i64))] 6:=by
 unfold im.t im.cs;exact⟨rfl,rfl,λ_ _=>rfl,rfl,by simp[jR],λ_=>by simp,λ_ _=>by simp,dy,dy⟩
@[simp]theorem im.fold (a0:Int) (a1:Int) (a2:Int) (a3:Int) (a4:Int) (a5:List Int):T.agg [Z a0,Z a1,Z a2,Z a3,Z a4,sl (a5.map (T.int .i64))]=im.t ⟨a0,a1,a2,a3,a4,a5⟩:=rfl
@[simp]theorem im.eta (e:im):im.mk e.kind e.a e.b e.c e.d e.iS=e:=rfl
def im.inj{a b:im}(c:a.t=b.t):a=b:=by
 rcases a with⟨_,_,_,_,_,_⟩;rcases b with⟨_,_,_,_,_,_⟩;simp only[im.t,im.cs,T.agg.injEq,aL]at c;obtain⟨d,e,f,g,h,i,_⟩:=c;obtain rfl:=il d;obtain rfl:=il e;obtain rfl:=il f;obtain rfl:=il g;obtain rfl:=il h;obtain rfl:=iw (λ_ _=>il) _ _ i;rfl
structure km where
 ez:dZ
 dJ:List ej
 deriving DecidableEq,Inhabited
def km.cs(a:km):List T:=[sl (a.ez.cells.map io.t),sl (a.ez.ei.map iI.t),sl (a.ez.gJ.map jb.t),sl (a.ez.d8.map T.str),sl (a.ez.dH.map T.str),sl (a.ez.iJ.map iK.t),sl (a.dJ.map ej.t)]
def km.t(a:km):T:= .agg a.cs
@[simp]def km.ag (a:km):qV a.t [sl (a.ez.cells.map io.t),sl (a.ez.ei.map iI.t),sl (a.ez.gJ.map jb.t),sl (a.ez.d8.map T.str),sl (a.ez.dH.map T.str),sl (a.ez.iJ.map iK.t),sl (a.dJ.map ej.t)] 7:=by
 unfold km.t km.cs;exact⟨rfl,rfl,λ_ _=>rfl,rfl,by simp[jR],λ_=>by simp,λ_ _=>by simp,dy,dy⟩
@[simp]theorem km.fold (a0:List io) (a1:List iI) (a2:List jb) (a3:List (List Nat)) (a4:List (List Nat)) (a5:List iK) (a:List ej):T.agg [sl (a0.map io.t),sl (a1.map iI.t),sl (a2.map jb.t),sl (a3.map T.str),sl (a4.map T.str),sl (a5.map iK.t),sl (a.map ej.t)]=km.t ⟨⟨a0,a1,a2,a3,a4,a5⟩,a⟩:=rfl
@[simp]theorem km.eta (a:km):km.mk a.ez a.dJ=a:=rfl
def km.inj{a b:km}(c:a.t=b.t):a=b:=by
 rcases a with⟨⟨_,_,_,_,_,_⟩,_⟩;rcases b with⟨⟨_,_,_,_,_,_⟩,_⟩;simp only[km.t,km.cs,T.agg.injEq,aL]at c;obtain⟨d,e,f,g,h,i,j,_⟩:=c;obtain rfl:=iw (λ_ _=>io.inj) _ _ d;obtain rfl:=iw (λ_ _=>iI.inj) _ _ e;obtain rfl:=iw (λ_ _=>jb.inj) _ _ f;obtain rfl:=iw (λ_ _=>ni) _ _ g;obtain rfl:=iw (λ_ _=>ni) _ _ h;obtain rfl:=iw (λ_ _=>iK.inj) _ _ i;obtain rfl:=iw (λ_ _=>ej.inj) _ _ j;rfl
structure fU where
 w:dR
 CL:List fH
 deriving DecidableEq,Inhabited
def fU.cs(a:fU):List T:=[sl (a.w.ez.cells.map io.t),sl (a.w.ez.ei.map iI.t),sl (a.w.ez.gJ.map jb.t),sl (a.w.ez.d8.map T.str),sl (a.w.ez.dH.map T.str),sl (a.w.ez.iJ.map iK.t),Z a.w.start,sl (a.w.jG.fj.ei.map dU.t),Z a.w.jG.fj.tx,sl (a.w.jG.fj.done.map T.bool),sl (a.w.jG.fj.dH.map dM.t),sl (a.w.jG.cells.map (T.int .i64)),sl (a.w.jG.d8.map (T.int .i64)),sl (a.w.jG.count.map (T.int .i64)),sl (a.w.dJ.map ej.t),sl (a.CL.map fH.t)]
def fU.t(a:fU):T:= .agg a.cs
@[simp]def fU.ag (a:fU):qV a.t [sl (a.w.ez.cells.map io.t),sl (a.w.ez.ei.map iI.t),sl (a.w.ez.gJ.map jb.t),sl (a.w.ez.d8.map T.str),sl (a.w.ez.dH.map T.str),sl (a.w.ez.iJ.map iK.t),Z a.w.start,sl (a.w.jG.fj.ei.map dU.t),Z a.w.jG.fj.tx,sl (a.w.jG.fj.done.map T.bool),sl (a.w.jG.fj.dH.map dM.t),sl (a.w.jG.cells.map (T.int .i64)),sl (a.w.jG.d8.map (T.int .i64)),sl (a.w.jG.count.map (T.int .i64)),sl (a.w.dJ.map ej.t),sl (a.CL.map fH.t)] 16:=by
 unfold fU.t fU.cs;exact⟨rfl,rfl,λ_ _=>rfl,rfl,by simp[jR],λ_=>by simp,λ_ _=>by simp,dy,dy⟩
@[simp]theorem fU.fold (a0:List io) (a1:List iI) (a2:List jb) (a3:List (List Nat)) (a4:List (List Nat)) (a5:List iK) (g:Int) (h:List dU) (i:Int) (j:List Bool) (a:List dM) (b:List Int) (c:List Int) (d:List Int) (e:List ej) (f:List fH):T.agg [sl (a0.map io.t),sl (a1.map iI.t),sl (a2.map jb.t),sl (a3.map T.str),sl (a4.map T.str),sl (a5.map iK.t),Z g,sl (h.map dU.t),Z i,sl (j.map T.bool),sl (a.map dM.t),sl (b.map (T.int .i64)),sl (c.map (T.int .i64)),sl (d.map (T.int .i64)),sl (e.map ej.t),sl (f.map fH.t)]=fU.t ⟨⟨⟨a0,a1,a2,a3,a4,a5⟩,g,⟨⟨h,i,j,a⟩,b,c,d⟩,e⟩,f⟩:=rfl
@[simp]theorem fU.eta (a:fU):fU.mk a.w a.CL=a:=rfl
def fU.inj{a b:fU}(c:a.t=b.t):a=b:=by
 rcases a with⟨⟨⟨_,_,_,_,_,_⟩,_,⟨⟨_,_,_,_⟩,_,_,_⟩,_⟩,_⟩;rcases b with⟨⟨⟨_,_,_,_,_,_⟩,_,⟨⟨_,_,_,_⟩,_,_,_⟩,_⟩,_⟩;simp only[fU.t,fU.cs,T.agg.injEq,aL]at c;obtain⟨d,e,l,m,n,o,p,q,r,s,f,g,h,i,j,k,_⟩:=c;obtain rfl:=iw (λ_ _=>io.inj) _ _ d;obtain rfl:=iw (λ_ _=>iI.inj) _ _ e;obtain rfl:=iw (λ_ _=>jb.inj) _ _ l;obtain rfl:=iw (λ_ _=>ni) _ _ m;obtain rfl:=iw (λ_ _=>ni) _ _ n;obtain rfl:=iw (λ_ _=>iK.inj) _ _ o;obtain rfl:=il p;obtain rfl:=iw (λ_ _=>dU.inj) _ _ q;obtain rfl:=il r;obtain rfl:=iw (λ_ _=>pG) _ _ s;obtain rfl:=iw (λ_ _=>dM.inj) _ _ f;obtain rfl:=iw (λ_ _=>il) _ _ g;obtain rfl:=iw (λ_ _=>il) _ _ h;obtain rfl:=iw (λ_ _=>il) _ _ i;obtain rfl:=iw (λ_ _=>ej.inj) _ _ j;obtain rfl:=iw (λ_ _=>fH.inj) _ _ k;rfl
structure fR where
 op:Int
 a:Int
 b:Int
 c:Int
 n:Int
 ji:Int
 deriving DecidableEq,Inhabited
def fR.cs(d:fR):List T:=[Z d.op,Z d.a,Z d.b,Z d.c,Z d.n,Z d.ji]
def fR.t(a:fR):T:= .agg a.cs
@[simp]def fR.ag (d:fR):qV d.t [Z d.op,Z d.a,Z d.b,Z d.c,Z d.n,Z d.ji] 6:=by
 unfold fR.t fR.cs;exact⟨rfl,rfl,λ_ _=>rfl,rfl,by simp[jR],λ_=>by simp,λ_ _=>by simp,dy,dy⟩
@[simp]theorem fR.fold (a0:Int) (a1:Int) (a2:Int) (a3:Int) (a4:Int) (a5:Int):T.agg [Z a0,Z a1,Z a2,Z a3,Z a4,Z a5]=fR.t ⟨a0,a1,a2,a3,a4,a5⟩:=rfl
@[simp]theorem fR.eta (d:fR):fR.mk d.op d.a d.b d.c d.n d.ji=d:=rfl
def fR.inj{a b:fR}(c:a.t=b.t):a=b:=by
 rcases a with⟨_,_,_,_,_,_⟩;rcases b with⟨_,_,_,_,_,_⟩;simp only[fR.t,fR.cs,T.agg.injEq,aL]at c;obtain⟨d,e,f,g,h,i,_⟩:=c;obtain rfl:=il d;obtain rfl:=il e;obtain rfl:=il f;obtain rfl:=il g;obtain rfl:=il h;obtain rfl:=il i;rfl
structure ge where
 iY:Int
 jm:List fR
 deriving DecidableEq,Inhabited
def ge.cs(a:ge):List T:=[Z a.iY,sl (a.jm.map fR.t)]
def ge.t(a:ge):T:= .agg a.cs
@[simp]def ge.ag (a:ge):qV a.t [Z a.iY,sl (a.jm.map fR.t)] 2:=by
 unfold ge.t ge.cs;exact⟨rfl,rfl,λ_ _=>rfl,rfl,by simp[jR],λ_=>by simp,λ_ _=>by simp,dy,dy⟩
@[simp]theorem ge.fold (a0:Int) (a1:List fR):T.agg [Z a0,sl (a1.map fR.t)]=ge.t ⟨a0,a1⟩:=rfl
@[simp]theorem ge.eta (a:ge):ge.mk a.iY a.jm=a:=rfl
def ge.inj{a b:ge}(c:a.t=b.t):a=b:=by
 rcases a with⟨_,_⟩;rcases b with⟨_,_⟩;simp only[ge.t,ge.cs,T.agg.injEq,aL]at c;obtain⟨d,e,_⟩:=c;obtain rfl:=il d;obtain rfl:=iw (λ_ _=>fR.inj) _ _ e;rfl
structure jU where
 ez:dZ
 dH:List ge
 deriving DecidableEq,Inhabited
def jU.cs(a:jU):List T:=[sl (a.ez.cells.map io.t),sl (a.ez.ei.map iI.t),sl (a.ez.gJ.map jb.t),sl (a.ez.d8.map T.str),sl (a.ez.dH.map T.str),sl (a.ez.iJ.map iK.t),sl (a.dH.map ge.t)]
def jU.t(a:jU):T:= .agg a.cs
@[simp]def jU.ag (a:jU):qV a.t [sl (a.ez.cells.map io.t),sl (a.ez.ei.map iI.t),sl (a.ez.gJ.map jb.t),sl (a.ez.d8.map T.str),sl (a.ez.dH.map T.str),sl (a.ez.iJ.map iK.t),sl (a.dH.map ge.t)] 7:=by
 unfold jU.t jU.cs;exact⟨rfl,rfl,λ_ _=>rfl,rfl,by simp[jR],λ_=>by simp,λ_ _=>by simp,dy,dy⟩
@[simp]theorem jU.fold (a0:List io) (a1:List iI) (a2:List jb) (a3:List (List Nat)) (a4:List (List Nat)) (a5:List iK) (a:List ge):T.agg [sl (a0.map io.t),sl (a1.map iI.t),sl (a2.map jb.t),sl (a3.map T.str),sl (a4.map T.str),sl (a5.map iK.t),sl (a.map ge.t)]=jU.t ⟨⟨a0,a1,a2,a3,a4,a5⟩,a⟩:=rfl
@[simp]theorem jU.eta (a:jU):jU.mk a.ez a.dH=a:=rfl
def jU.inj{a b:jU}(c:a.t=b.t):a=b:=by
 rcases a with⟨⟨_,_,_,_,_,_⟩,_⟩;rcases b with⟨⟨_,_,_,_,_,_⟩,_⟩;simp only[jU.t,jU.cs,T.agg.injEq,aL]at c;obtain⟨d,e,f,g,h,i,j,_⟩:=c;obtain rfl:=iw (λ_ _=>io.inj) _ _ d;obtain rfl:=iw (λ_ _=>iI.inj) _ _ e;obtain rfl:=iw (λ_ _=>jb.inj) _ _ f;obtain rfl:=iw (λ_ _=>ni) _ _ g;obtain rfl:=iw (λ_ _=>ni) _ _ h;obtain rfl:=iw (λ_ _=>iK.inj) _ _ i;obtain rfl:=iw (λ_ _=>ge.inj) _ _ j;rfl
structure eG where
 pC:Int
 iY:List Int
 kf:List (List Int)
 dJ:Int
 deriving DecidableEq,Inhabited
def eG.cs(a:eG):List T:=[Z a.pC,sl (a.iY.map (T.int .i64)),sl (a.kf.map (λb=>sl (b.map (T.int .i64)))),Z a.dJ]
def eG.t(a:eG):T:= .agg a.cs
@[simp]def eG.ag (a:eG):qV a.t [Z a.pC,sl (a.iY.map (T.int .i64)),sl (a.kf.map (λb=>sl (b.map (T.int .i64)))),Z a.dJ] 4:=by
 unfold eG.t eG.cs;exact⟨rfl,rfl,λ_ _=>rfl,rfl,by simp[jR],λ_=>by simp,λ_ _=>by simp,dy,dy⟩
@[simp]theorem eG.fold (a0:Int) (a1:List Int) (a2:List (List Int)) (a3:Int):T.agg [Z a0,sl (a1.map (T.int .i64)),sl (a2.map (λa=>sl (a.map (T.int .i64)))),Z a3]=eG.t ⟨a0,a1,a2,a3⟩:=rfl
@[simp]theorem eG.eta (a:eG):eG.mk a.pC a.iY a.kf a.dJ=a:=rfl
def eG.inj{a b:eG}(c:a.t=b.t):a=b:=by
 rcases a with⟨_,_,_,_⟩;rcases b with⟨_,_,_,_⟩;simp only[eG.t,eG.cs,T.agg.injEq,aL]at c;obtain⟨d,e,f,g,_⟩:=c;obtain rfl:=il d;obtain rfl:=iw (λ_ _=>il) _ _ e;obtain rfl:=iw (iw (λ_ _=>il)) _ _ f;obtain rfl:=il g;rfl
structure iO where
 fj:fH
 cells:List Int
 d8:List Int
 dH:List eG
 deriving DecidableEq,Inhabited
def iO.cs(a:iO):List T:=[sl (a.fj.ei.map dU.t),Z a.fj.tx,sl (a.fj.done.map T.bool),sl (a.fj.dH.map dM.t),sl (a.cells.map (T.int .i64)),sl (a.d8.map (T.int .i64)),sl (a.dH.map eG.t)]
def iO.t(a:iO):T:= .agg a.cs
@[simp]def iO.ag (a:iO):qV a.t [sl (a.fj.ei.map dU.t),Z a.fj.tx,sl (a.fj.done.map T.bool),sl (a.fj.dH.map dM.t),sl (a.cells.map (T.int .i64)),sl (a.d8.map (T.int .i64)),sl (a.dH.map eG.t)] 7:=by
 unfold iO.t iO.cs;exact⟨rfl,rfl,λ_ _=>rfl,rfl,by simp[jR],λ_=>by simp,λ_ _=>by simp,dy,dy⟩
@[simp]theorem iO.fold (a0:List dU) (a1:Int) (a2:List Bool) (a3:List dM) (a4:List Int) (a5:List Int) (a:List eG):T.agg [sl (a0.map dU.t),Z a1,sl (a2.map T.bool),sl (a3.map dM.t),sl (a4.map (T.int .i64)),sl (a5.map (T.int .i64)),sl (a.map eG.t)]=iO.t ⟨⟨a0,a1,a2,a3⟩,a4,a5,a⟩:=rfl
@[simp]theorem iO.eta (a:iO):iO.mk a.fj a.cells a.d8 a.dH=a:=rfl
def iO.inj{a b:iO}(c:a.t=b.t):a=b:=by
 rcases a with⟨⟨_,_,_,_⟩,_,_,_⟩;rcases b with⟨⟨_,_,_,_⟩,_,_,_⟩;simp only[iO.t,iO.cs,T.agg.injEq,aL]at c;obtain⟨d,e,f,g,h,i,j,_⟩:=c;obtain rfl:=iw (λ_ _=>dU.inj) _ _ d;obtain rfl:=il e;obtain rfl:=iw (λ_ _=>pG) _ _ f;obtain rfl:=iw (λ_ _=>dM.inj) _ _ g;obtain rfl:=iw (λ_ _=>il) _ _ h;obtain rfl:=iw (λ_ _=>il) _ _ i;obtain rfl:=iw (λ_ _=>eG.inj) _ _ j;rfl
structure gF where
 dP:Int
 wc:Int
 deriving DecidableEq,Inhabited
def gF.cs(a:gF):List T:=[Z a.dP,Z a.wc]
def gF.t(a:gF):T:= .agg a.cs
@[simp]def gF.ag (a:gF):qV a.t [Z a.dP,Z a.wc] 2:=by
 unfold gF.t gF.cs;exact⟨rfl,rfl,λ_ _=>rfl,rfl,by simp[jR],λ_=>by simp,λ_ _=>by simp,dy,dy⟩
@[simp]theorem gF.fold (a0:Int) (a1:Int):T.agg [Z a0,Z a1]=gF.t ⟨a0,a1⟩:=rfl
@[simp]theorem gF.eta (a:gF):gF.mk a.dP a.wc=a:=rfl
def gF.inj{a b:gF}(c:a.t=b.t):a=b:=by
 rcases a with⟨_,_⟩;rcases b with⟨_,_⟩;simp only[gF.t,gF.cs,T.agg.injEq,aL]at c;obtain⟨d,e,_⟩:=c;obtain rfl:=il d;obtain rfl:=il e;rfl
structure iC where
 kind:Int
 vi:Int
 name:List Nat
 size:Int
 jG:Int
 on:List Nat
 deriving DecidableEq,Inhabited
def iC.cs(a:iC):List T:=[Z a.kind,Z a.vi,.str a.name,Z a.size,Z a.jG,.str a.on]
def iC.t(a:iC):T:= .agg a.cs
@[simp]def iC.ag (a:iC):qV a.t [Z a.kind,Z a.vi,.str a.name,Z a.size,Z a.jG,.str a.on] 6:=by
 unfold iC.t iC.cs;exact⟨rfl,rfl,λ_ _=>rfl,rfl,by simp[jR],λ_=>by simp,λ_ _=>by simp,dy,dy⟩
@[simp]theorem iC.fold (a0:Int) (a1:Int) (a2:List Nat) (a3:Int) (a4:Int) (a5:List Nat):T.agg [Z a0,Z a1,.str a2,Z a3,Z a4,.str a5]=iC.t ⟨a0,a1,a2,a3,a4,a5⟩:=rfl
@[simp]theorem iC.eta (a:iC):iC.mk a.kind a.vi a.name a.size a.jG a.on=a:=rfl
def iC.inj{a b:iC}(c:a.t=b.t):a=b:=by
 rcases a with⟨_,_,_,_,_,_⟩;rcases b with⟨_,_,_,_,_,_⟩;simp only[iC.t,iC.cs,T.agg.injEq,aL]at c;obtain⟨d,e,f,g,h,i,_⟩:=c;obtain rfl:=il d;obtain rfl:=il e;obtain rfl:=ni f;obtain rfl:=il g;obtain rfl:=il h;obtain rfl:=ni i;rfl
structure gh where
 value:Int
 known:Bool
 deriving DecidableEq,Inhabited
def gh.cs(a:gh):List T:=[Z a.value,.bool a.known]
def gh.t(a:gh):T:= .agg a.cs
@[simp]def gh.ag (a:gh):qV a.t [Z a.value,.bool a.known] 2:=by
 unfold gh.t gh.cs;exact⟨rfl,rfl,λ_ _=>rfl,rfl,by simp[jR],λ_=>by simp,λ_ _=>by simp,dy,dy⟩
@[simp]theorem gh.fold (a0:Int) (a1:Bool):T.agg [Z a0,.bool a1]=gh.t ⟨a0,a1⟩:=rfl
@[simp]theorem gh.eta (a:gh):gh.mk a.value a.known=a:=rfl
def gh.inj{a b:gh}(c:a.t=b.t):a=b:=by
 rcases a with⟨_,_⟩;rcases b with⟨_,_⟩;simp only[gh.t,gh.cs,T.agg.injEq,aL]at c;obtain⟨d,e,_⟩:=c;obtain rfl:=il d;obtain rfl:=pG e;rfl
structure eK where
 fj:fH
 cells:List gh
 d8:List gh
 order:List Int
 fixed:List Bool
 qt:List Int
 deriving DecidableEq,Inhabited
def eK.cs(a:eK):List T:=[sl (a.fj.ei.map dU.t),Z a.fj.tx,sl (a.fj.done.map T.bool),sl (a.fj.dH.map dM.t),sl (a.cells.map gh.t),sl (a.d8.map gh.t),sl (a.order.map (T.int .i64)),sl (a.fixed.map T.bool),sl (a.qt.map (T.int .i64))]
def eK.t(a:eK):T:= .agg a.cs
@[simp]def eK.ag (a:eK):qV a.t [sl (a.fj.ei.map dU.t),Z a.fj.tx,sl (a.fj.done.map T.bool),sl (a.fj.dH.map dM.t),sl (a.cells.map gh.t),sl (a.d8.map gh.t),sl (a.order.map (T.int .i64)),sl (a.fixed.map T.bool),sl (a.qt.map (T.int .i64))] 9:=by
 unfold eK.t eK.cs;exact⟨rfl,rfl,λ_ _=>rfl,rfl,by simp[jR],λ_=>by simp,λ_ _=>by simp,dy,dy⟩
@[simp]theorem eK.fold (a0:List dU) (a1:Int) (a2:List Bool) (a3:List dM) (a4:List gh) (a5:List gh) (a:List Int) (b:List Bool) (c:List Int):T.agg [sl (a0.map dU.t),Z a1,sl (a2.map T.bool),sl (a3.map dM.t),sl (a4.map gh.t),sl (a5.map gh.t),sl (a.map (T.int .i64)),sl (b.map T.bool),sl (c.map (T.int .i64))]=eK.t ⟨⟨a0,a1,a2,a3⟩,a4,a5,a,b,c⟩:=rfl
@[simp]theorem eK.eta (a:eK):eK.mk a.fj a.cells a.d8 a.order a.fixed a.qt=a:=rfl
def eK.inj{a b:eK}(c:a.t=b.t):a=b:=by
 rcases a with⟨⟨_,_,_,_⟩,_,_,_,_,_⟩;rcases b with⟨⟨_,_,_,_⟩,_,_,_,_,_⟩;simp only[eK.t,eK.cs,T.agg.injEq,aL]at c;obtain⟨d,e,f,g,h,i,j,k,l,_⟩:=c;obtain rfl:=iw (λ_ _=>dU.inj) _ _ d;obtain rfl:=il e;obtain rfl:=iw (λ_ _=>pG) _ _ f;obtain rfl:=iw (λ_ _=>dM.inj) _ _ g;obtain rfl:=iw (λ_ _=>gh.inj) _ _ h;obtain rfl:=iw (λ_ _=>gh.inj) _ _ i;obtain rfl:=iw (λ_ _=>il) _ _ j;obtain rfl:=iw (λ_ _=>pG) _ _ k;obtain rfl:=iw (λ_ _=>il) _ _ l;rfl
def iP(a:Int)(b:Nat):Bool:=decide (0<=a/\a<b)
def uR{b:Type}(c:List b)(a:Int):aa b:=if 0<=a then c[a.toNat]? else none
def eQ{a:Int}{b:Nat}:iP a b=true↔0<=a/\a.toNat<b:=by unfold iP;simp;omega
def pY{a:Int}{c:Nat}(b:iP a c=false):¬(0<=a/\a.toNat<c):=λd=>by rw[eQ.2 d]at b;simp at b
def iD{e:Type}{l:List e}{i:Int}(c:iP i l.length=true):∃b,l[i.toNat]? =some b/\uR l i=some b:=by
 have⟨d,a⟩:=eQ.1 c;exact⟨l[i.toNat],by simp[a],by simp[uR,d,a]⟩
def nQ{d:Type}{b:List d}{a:Int}(c:iP a b.length=false):uR b a=none:=by
 have:=pY c;unfold uR;split
 ·simp;omega
 ·rfl
def lA(a:dZ)(b:fH):Bool:=(a.gJ.all λc=>iP c.kJ a.ei.length)&&decide (b.ei.length=a.ei.length)&&decide (b.done.length=a.d8.length)&&decide (b.dH.length=a.dH.length)
def jN(c:dZ)(a b:Int):Bool:=
 if a=1\/a=2\/a=5\/a=12\/a=13\/a=14\/a=15 then decide (b=-1)
 else if a=3\/a=4 then iP b c.cells.length
 else if a=6\/a=7 then(match uR c.ei b with|some d=> !d.rW|none=>false)
 else if a=8\/a=9\/a=10\/a=11 then(match uR c.ei b with|some d=>d.rW|none=>false)
 else if a=16\/a=17\/a=18\/a=19 then iP b c.gJ.length
 else if a=20\/a=21 then iP b c.dH.length
 else if a=22\/a=23 then iP b c.d8.length
 else false
def iA(a:Int):List dM->Nat->List Int
 | [],_=>[]
 |t::c,b=>if t.iE=3/\t.cond=a then(b:Int)::iA a c (b+1)else iA a c (b+1)
def mX(b:fH)(a:Int):dU:=(uR b.ei a).getD default
def nS(b:fH)(a:Int):dM:=(uR b.dH a).getD default
def sI(c:dZ)(b:fH)(a:Int):dU:=mX b ((uR c.gJ a).getD default).kJ
def D6(b:fH)(a:Int):Bool:=(uR b.done a).getD false
def yU(e:dZ)(a:fH)(d b c:Int):Bool:=
 if b=1 then decide ((nS a d).iE=1)
 else if b=17 then decide ((nS a d).iE=4)&&decide ((nS a d).cond=c)&&decide ((sI e a c).iZ=-1)
 else if¬(nS a d).iE=2 then false
 else if b=6 then decide ((mX a c).iZ=-1)
 else if b=10 then decide ((mX a c).iZ=-1)&&decide ((mX a c).eJ=[])
 else if b=8 then decide ((mX a c).iZ=-1)&& !decide (d∈(mX a c).eJ)
 else if b=7\/b=11 then decide ((mX a c).iZ=d)
 else if b=9 then decide (d∈(mX a c).eJ)
 else if b=12 then decide (a.tx=-1)
 else if b=13 then decide (a.tx=d)
 else if b=14 then !(nS a d).atomic
 else if b=15 then(nS a d).atomic
 else if b=16\/b=18\/b=19 then decide ((sI e a c).iZ=d)
 else if b=20 then !decide (c=d)&&decide ((nS a c).iE=0)
 else if b=21 then !decide (c=d)&&decide ((nS a c).iE=5)
 else if b=22 then !D6 a c
 else if b=23 then D6 a c
 else true
def js(a:dZ)(d:fH)(e b c:Int):Bool:=lA a d&&iP e a.dH.length&&jN a b c&&yU a d e b c
def mT{c:dZ}{b:fH}(a:lA c b=true):b.ei.length=c.ei.length/\b.done.length=c.d8.length/\b.dH.length=c.dH.length:=by
 unfold lA at a;simp at a;exact⟨a.1.1.2,a.1.2,a.2⟩
def sx{c:dZ}{f:fH}(b:lA c f=true){e:Nat}{a:jb}(d:c.gJ[e]? =some a):iP a.kJ c.ei.length=true:=by
 unfold lA at b;simp at b;exact b.1.1.1 a (ay d)
def uC{d:dZ}{a c:Int}(b:jN d a c=true):a=1\/a=2\/a=3\/a=4\/a=5\/a=12\/a=13\/a=14\/a=15\/(a=6\/a=7\/a=8\/a=9\/a=10\/a=11)\/(a=16\/a=17\/a=18\/a=19)\/(a=20\/a=21)\/(a=22\/a=23):=by
 by_cases e:1<=a/\a<=23
 ·omega
 ·exfalso;unfold jN at b;rw[ao J,ao J,ao J,ao J,ao J,ao J,ao J]at b;simp at b
def kX{d:dZ}{a c:Int}(b:jN d a c=true)(e:a=6\/a=7\/a=8\/a=9\/a=10\/a=11):iP c d.ei.length=true:=by
 cases hl:iP c d.ei.length with
 |true=>rfl
 |false=>
  unfold jN at b;rw[ao J,ao J]at b;rcases e with rfl|rfl|rfl|rfl|rfl|rfl<;>simp[nQ hl]at b
def oK{d:dZ}{a c:Int}(b:jN d a c=true)(e:a=16\/a=17\/a=18\/a=19):iP c d.gJ.length=true:=by
 unfold jN at b;rwa[ao J,ao J,ao J,ao J,aq e]at b
def xE{d:dZ}{a c:Int}(b:jN d a c=true)(e:a=20\/a=21):iP c d.dH.length=true:=by
 unfold jN at b;rwa[ao J,ao J,ao J,ao J,ao J,aq e]at b
def rS{d:dZ}{a c:Int}(b:jN d a c=true)(e:a=22\/a=23):iP c d.d8.length=true:=by
 unfold jN at b;rwa[ao J,ao J,ao J,ao J,ao J,ao J,aq e]at b
def fH.sm(a:fH):Prop:=a.ei.length<=1099511627776/\a.done.length<=1099511627776/\a.dH.length<=1099511627776/\∀b∈a.ei,b.eJ.length<=1000000000000
def fH.pL(a:fH)(i:Int)(b:dM->dM):fH:={a with dH:=a.dH.modify i.toNat b}
def fH.rg(a:fH)(c:Int)(b:dU->dU):fH:={a with ei:=a.ei.modify c.toNat b}
def kF(a:Int)(b:dM):dM:={b with iE:=a}
def mp:List Int->Int->List Int
 | [],a=>[a]
 |x::b,a=>if x<a then x::mp b a else if x=a then x::b else a::x::b
def yX(a c:Int)(b:List dM):Int:=if c∈iA a b 0 then c else(iA a b 0).headD (-1)
def fg(g:dZ)(a:fH)(f b c h:Int):fH×Int:=
 if b=1 then(a.pL f (kF 2),0)
 else if b=2 then(a.pL f (kF 5),0)
 else if b=6\/b=10 then(a.rg c λd=>{d with iZ:=f},0)
 else if b=7\/b=11 then(a.rg c λd=>{d with iZ:=-1},0)
 else if b=8 then(a.rg c λd=>{d with eJ:=mp d.eJ f},0)
 else if b=9 then(a.rg c λd=>{d with eJ:=d.eJ.filter λi=> !decide (i=f)},0)
 else if b=12 then({a with tx:=f},0)
 else if b=13 then({a with tx:=-1},0)
 else if b=14 then(a.pL f λe=>{e with atomic:=true},0)
 else if b=15 then(a.pL f λe=>{e with atomic:=false},0)
 else if b=16 then((a.rg ((uR g.gJ c).getD default).kJ λd=>{d with iZ:=-1}).pL f λe=>{e with iE:=3,cond:=c},0)
 else if b=17 then((a.rg ((uR g.gJ c).getD default).kJ λd=>{d with iZ:=f}).pL f λe=>{e with iE:=2,cond:=0},0)
 else if b=18 then(if iA c a.dH 0=[]then(a,-1)else(a.pL (yX c h a.dH) (kF 4),yX c h a.dH))
 else if b=19 then({a with dH:=a.dH.map λe=>if e.iE=3/\e.cond=c then kF 4 e else e},(iA c a.dH 0).length)
 else if b=20 then(a.pL c (kF 1),0)
 else if b=22 then({a with done:=a.done.set c.toNat true},0)
 else(a,0)
def JX(a:List Int):Prop:=a.Pairwise (· < ·)
def fH.BS(b:fH):Prop:=∀a∈b.ei,JX a.eJ
def DD{a:List Int}{c b:Int}(h:b∈mp a c):b∈a\/b=c:=by
 induction a with
 |nil=>simp[mp]at h;exact .inr h
 |cons e a d=>
  unfold mp at h;split at h
  ·rcases List.mem_cons.1 h with rfl|h
   ·exact .inl dy
   ·rcases d h with h|h
    ·exact .inl (by simp[h])
    ·exact .inr h
  ·split at h
   ·exact .inl h
   ·rcases List.mem_cons.1 h with rfl|h
    ·exact .inr rfl
    ·exact .inl h
def DE{b:List Int}(a:JX b)(e:Int):JX (mp b e):=by
 induction b with
 |nil=>simp[mp,JX]
 |cons f b d=>
  unfold JX at*
  rw[dj]at a;unfold mp;split
  ·rw[dj];refine⟨λc hx=>?_,d a.2⟩;rcases DD hx with hx|rfl
   ·exact a.1 c hx
   ·assumption
  ·split
   ·rw[dj];exact a
   ·rw[dj,dj];refine⟨λc hx=>?_,a⟩;rcases List.mem_cons.1 hx with rfl|hx
    ·omega
    ·have:=a.1 c hx;omega
def Ja(a:List Int)(b:Int):(mp a b).length<=a.length+1:=by
 induction a with
 |nil=>simp[mp]
 |cons d a c=>unfold mp;split<;>(try split)<;>simp<;>omega
def mem_modify{c:Type}{b:List c}{i:Nat}{g:c->c}{e:c}(h:e∈b.modify i g):e∈b\/∃f∈b,e=g f:=by
 have⟨j,a⟩:=List.mem_iff_getElem?.1 h;rw[List.getElem?_modify]at a;split at a
 ·cases d:b[j]? with
  |none=>rw[d]at a;simp at a
  |some f=>rw[d]at a;simp at a;exact .inr ⟨f,ay d,a.symm⟩
 ·exact .inl (ay (by simpa using a))
def Uw{b:fH}(d:b.BS){h:Int}{c:dU->dU}(f:∀a∈b.ei,JX (c a).eJ):(b.rg h c).BS:=by
 intro a hl;rcases mem_modify hl with e|⟨i,g,rfl⟩
 ·exact d a e
 ·exact f i g
def qM{e:Type}(b:e->Prop){a:Prop} [Decidable a]{c d:e}(f:a->b c)(g:¬a->b d):b (if a then c else d):=by
 split
 ·exact f (by assumption)
 ·exact g (by assumption)
def vJ{P:fH×Int->Prop}{p:dZ}{b:fH}{e m g q:Int}(p0:P (b,0))(p1:P (b,-1))(pt:∀h c d,P (b.pL h c,d))(f:∀h c,(∀a,(c a).eJ=a.eJ\/(c a).eJ=mp a.eJ e\/(c a).eJ=a.eJ.filter λi=> !decide (i=e))->P (b.rg h c,0)/\∀l k,P ((b.rg h c).pL l k,0))
 (j:∀d,P ({b with tx:=d},0)) (o:∀c d,P ({b with dH:=b.dH.map c},d)) (n:∀d,P ({b with done:=b.done.set d true},0)):P (fg p b e m g q):=by
 unfold fg;refine qM P (λ_=>pt _ _ _) λ_=>?_;refine qM P (λ_=>pt _ _ _) λ_=>?_;refine qM P (λ_=>(f g (λa=>{a with iZ:=e}) λ_=> .inl rfl).1) λ_=>?_;refine qM P (λ_=>(f g (λa=>{a with iZ:=-1}) λ_=> .inl rfl).1) λ_=>?_;refine qM P (λ_=>(f g (λa=>{a with eJ:=mp a.eJ e}) λ_=> .inr (.inl rfl)).1) λ_=>?_;refine qM P (λ_=>(f g (λa=>{a with eJ:=a.eJ.filter λi=> !decide (i=e)}) λ_=> .inr (.inr rfl)).1) λ_=>?_;refine qM P (λ_=>j _) λ_=>?_;refine qM P (λ_=>j _) λ_=>?_;refine qM P (λ_=>pt _ _ _) λ_=>?_;refine qM P (λ_=>pt _ _ _) λ_=>?_;refine qM P (λ_=>(f _ (λa=>{a with iZ:=-1}) λ_=> .inl rfl).2 _ _) λ_=>?_;refine qM P (λ_=>(f _ (λa=>{a with iZ:=e}) λ_=> .inl rfl).2 _ _) λ_=>?_;refine qM P (λ_=>qM P (λ_=>p1) λ_=>pt _ _ _) λ_=>?_;refine qM P (λ_=>o _ _) λ_=>?_;refine qM P (λ_=>pt _ _ _) λ_=>?_;exact qM P (λ_=>n _) λ_=>p0
def vI{i:fH}(b:i.BS)(m:dZ)(g k l n:Int):(fg m i g k l n).1.BS:=by
 have j:∀(d:Int) (c:dU->dU),(∀a,(c a).eJ=a.eJ\/(c a).eJ=mp a.eJ g\/(c a).eJ=a.eJ.filter λh=> !decide (h=g))->(i.rg d c).BS:=λd c f=>Uw b λa hl=>by
  rcases f a with e|e|e<;>rw[e]
  ·exact b a hl
  ·exact DE (b a hl) g
  ·exact(b a hl).filter _
 exact vJ (P:=λh=>h.1.BS) b b (λ_ _ _=>b) (λd c f=>⟨j d c f,λ_ _=>j d c f⟩) (λ_=>b) (λ_ _=>b) (λ_=>b)
def vH(f:dZ)(a:fH)(e b c g:Int):(fg f a e b c g).1.ei.length=a.ei.length/\(fg f a e b c g).1.done.length=a.done.length/\(fg f a e b c g).1.dH.length=a.dH.length:=
 vJ (P:=λd=>d.1.ei.length=a.ei.length/\d.1.done.length=a.done.length/\d.1.dH.length=a.dH.length) ⟨rfl,rfl,rfl⟩ ⟨rfl,rfl,rfl⟩ (λ_ _ _=>by simp[fH.pL]) (λ_ _ _=>by simp[fH.pL,fH.rg]) (λ_=>⟨rfl,rfl,rfl⟩) (λ_ _=>by simp) (λ_=>by simp)
def Ot{a:List Int}{b:Int}(d:∀c∈a,c<b):mp a b=a++[b]:=by
 induction a with
 |nil=>rfl
 |cons g a f=>unfold mp;rw[aq (d g dy),f λc e=>d c (by simp[e])];rfl
def Ou:∀(b a:List Int),JX (a++b)->b.foldl mp a=a++b:=by
 intro b;induction b with
 |nil=>intro a _;simp
 |cons c b h=>
  intro a e;have f:∀d∈a,d<c:=λd g=>(List.pairwise_append.1 e).2.2 d g c dy;rw[List.foldl_cons,Ot f,h (a++[c]) (by simpa using e)];simp
def Nl{a:List Int}(c:JX a)(b:Int): [b].foldl mp (a.foldl mp [])=mp a b:=by
 rw[Ou a [] (by simpa using c)];rfl
def mH(b:dZ)(a:ew):Bool:=lA b a.fj&&decide (a.cells.length=b.cells.length)&&decide (a.d8.length=b.d8.length)&&decide (a.count.length=b.dH.length)
def yB(b:Int):aa Int->List Int->Bool
 |_,[]=>true
 |p,a::c=> !(decide (a<1))&& !(decide (b<=a))&&(match p with|some d=> !(decide (a<=d))|none=>true)&&yB b (some a) c
def oF(b:ew)(a:ej):Bool:=
 if a.kind=3 then(match uR b.cells a.obj with|some c=>decide (a.value=c)|none=>false)
 else if a.kind=23 then(match uR b.d8 a.obj with|some c=>decide (a.value=c)|none=>false)
 else if a.kind=5 then decide (a.value=0)||decide (a.value=1)
 else if a.kind=4\/a.kind=22 then true
 else if a.kind=18 then(if iA a.obj b.fj.dH 0=[]then decide (a.value=-1)else decide (0<=a.value)&&decide (a.value<b.fj.dH.length)&&decide (a.value∈iA a.obj b.fj.dH 0))
 else if a.kind=19 then decide (a.value=(iA a.obj b.fj.dH 0).length)
 else decide (a.value=0)
def Bu(d c:Int):List ej->Nat->Bool->Bool
 | [],_,a=>a
 |e::f,b,a=>if e.dP=d then Bu d c f (b+1) (a||(decide ((b:Int)=c)&&(decide (e.kind=3)||decide (e.kind=23))))else Bu d c f b a
def wt(a:List ej)(d:Int)(c:List Int):Bool:=c.all λb=>Bu d b a 0 false
def Fj(c:Int):∀(a:List dM) (b:Nat),(iA c a b).length<=a.length:=by
 intro a;induction a with
 |nil=>intro b;simp[iA]
 |cons e a d=>intro b;rw[iA];have:=d (b+1);split<;>simp<;>omega
def m6(a:ej):Bool:=decide (a.kind=3)||decide (a.kind=4)
def kH(a b:ej):Bool:=m6 a&&m6 b&&decide (a.obj=b.obj)&&(decide (a.kind=4)||decide (b.kind=4))
def qW(a:Int):Bool:=decide (a=6)||decide (a=8)||decide (a=10)||decide (a=17)||decide (a=21)
def lq(b:List ej)(a:Int):ej:=(uR b a).getD default
def po(a:List Int)(b:Int)(c:Nat):Int:=match a with
 | []=>-1
 |x::a=>if x=b then c else po a b (c+1)
def Dd{c:Int}:∀{a:List Int} {b:Nat},0<=po a c b↔c∈a:=by
 intro a;induction a with
 |nil=>intro b;simp[po]
 |cons e a d=>intro b;unfold po;grind
structure GX where
 w:dZ
 ev:List ej
 st:List fH
def GX.e(b:GX)(a:Int):ej:=lq b.ev a
def GX.s(b:GX)(a:Int):fH:=(uR b.st a).getD default
def GX.WK(d:GX)(a b:Int)(c:ej->Bool):Bool:=((d.ev.drop a.toNat).take (b-a).toNat).all c
def GX.nW(a:GX)(c b:Int):Bool:=
 if(a.e b).dP=(a.e c).dP then false
 else if(a.e b).kind=6\/(a.e b).kind=10 then decide ((mX (a.s c) (a.e b).obj).iZ=(a.e c).dP)||decide ((a.e c).dP∈(mX (a.s c) (a.e b).obj).eJ)
 else if(a.e b).kind=8 then decide ((mX (a.s c) (a.e b).obj).iZ=(a.e c).dP)
 else if(a.e b).kind=17 then decide ((sI a.w (a.s c) (a.e b).obj).iZ=(a.e c).dP)
 else if(a.e b).kind=21 then decide ((a.e b).obj=(a.e c).dP)
 else false
def GX.w8(b:GX)(a c:Int):Bool:=qW (b.e a).kind&&b.nW a c
def GX.OQ{b:GX}{j a:Int}(c:b.nW j a=true):qW (b.e a).kind=true:=by
 unfold GX.nW at c;unfold qW;by_cases h:(b.e a).kind=6
 ·simp[h]
 by_cases d:(b.e a).kind=10
 ·simp[d]
 by_cases i:(b.e a).kind=8
 ·simp[i]
 by_cases f:(b.e a).kind=17
 ·simp[f]
 by_cases g:(b.e a).kind=21
 ·simp[g]
 simp[h,d,i,f,g]at c
def GX.Ga(c:GX)(d:Int->Int->Bool)(a:List Int):Bool:=
 decide (2<=a.length)&&decide (a.length<=4)&&(a.all λb=>iP b c.ev.length)&&(List.range a.length).all λb=>
  !decide (a.getD b 0<a.getD 0 0)&&d (a.getD ((b+1)% a.length) 0) (a.getD b 0)&&(List.range b).all λf=> !decide ((c.e (a.getD b 0)).dP=(c.e (a.getD f 0)).dP)
def GX.YF(e:GX)(d:List Int):e.Ga e.w8 d=e.Ga e.nW d:=by
 unfold GX.Ga;by_cases hl:2<=d.length;rotate_left
 ·simp[hl]
 congr 1;rw[bp,bW,bW];constructor
 ·intro a c f;have:=a c f;simp only[ax,GX.w8]at this|-;exact⟨⟨this.1.1,this.1.2.2⟩,this.2⟩
 ·intro a c f;have b:=a c f;have g:=a ((c+1)% d.length) (by rw[cu];exact Nat.mod_lt _ J);simp only[ax,GX.w8]at b g|-;exact⟨⟨b.1.1,GX.OQ g.1.2,b.1.2⟩,b.2⟩
def GX.dead(g:GX)(f:Int->Int->Bool)(e:im):Bool:=decide (e.a=0)&&decide (e.b=0)&&decide (e.c=0)&&decide (e.d=0)&&g.Ga f e.iS
def GX.TX(a:GX)(b c:Int):Bool:=decide (b<c)&& !decide ((a.e b).dP=(a.e c).dP)&&kH (a.e b) (a.e c)&& !((uR a.w.cells (a.e b).obj).getD default).ud
def GX.Tx(a:GX)(b c:Int):Bool:=
 decide (c<b)&&(decide ((a.e b).kind=18)||decide ((a.e b).kind=19))&&decide ((a.e c).kind=16)&&decide ((a.e b).obj=(a.e c).obj)&& !decide ((a.e b).dP=(a.e c).dP)&&
  a.WK (c+1) b (λd=> !decide (d.dP=(a.e c).dP))&&decide ((nS (a.s b) (a.e c).dP).iE=3)&&(decide ((a.e b).kind=19)||decide ((a.e b).value=(a.e c).dP))
def GX.Ah(b:Int)(a:ej):Bool:= !(decide (a.dP=b)&&decide (a.kind=15))
def GX.Za(b:GX)(a c:Int):Bool:=
 decide (a<c)&&decide ((b.e c).dP=(b.e a).dP)&&(nS (b.s a) (b.e a).dP).atomic&&b.WK (a+1) c (GX.Ah (b.e a).dP)
def GX.Y3(a:GX)(d f b c:Int):Bool:=
 decide (b<=c)&&decide ((a.e b).dP=(a.e c).dP)&& !decide ((a.e b).dP=(a.e d).dP)&&kH (a.e d) (a.e b)&&kH (a.e c) (a.e f)
def GX.JI(a:GX)(b c d f:Int):Bool:=
 decide (b<c)&&decide (d<=f)&&decide ((a.e b).dP=(a.e c).dP)&&decide ((a.e d).dP=(a.e f).dP)&& !decide ((a.e b).dP=(a.e d).dP)&&kH (a.e b) (a.e d)&&kH (a.e f) (a.e c)&&
  a.WK b c (GX.Ah (a.e b).dP)&&(nS (a.s b) (a.e b).dP).atomic
def GX.yc(b:GX)(a:Int):Bool:=iP a b.ev.length
def GX.vR(f:GX)(e:im):Bool:=
 if e.kind=2 then f.dead f.nW e
 else if(f.yc e.a&&f.yc e.b&&f.yc e.c&&f.yc e.d)=true then
  (
   if e.kind=1 then decide (e.c=0)&&decide (e.d=0)&&decide (e.iS=[])&&f.TX e.a e.b
   else if e.kind=3 then decide (e.c=0)&&decide (e.d=0)&&decide (e.iS=[])&&f.Tx e.a e.b
   else if e.kind=4 then decide (e.iS=[])&&f.JI e.a e.b e.c e.d
   else false)
 else false
def GX.vG(f:GX)(e:im):Bool:=
 if e.kind=1 then decide (e.c=0)&&decide (e.d=0)&&decide (e.iS=[])&&(f.yc e.a&&f.yc e.b)&&f.TX e.a e.b
 else if e.kind=2 then f.dead f.w8 e
 else if e.kind=3 then decide (e.c=0)&&decide (e.d=0)&&decide (e.iS=[])&&(f.yc e.a&&f.yc e.b)&&f.Tx e.a e.b
 else if e.kind=4 then decide (e.iS=[])&&(f.yc e.a&&f.yc e.b&&f.yc e.c&&f.yc e.d)&&f.Za e.a e.b&&f.Y3 e.a e.b e.c e.d
 else false
def GX.in0{a:GX}{b:Int}(c:a.yc b=true):a.yc 0=true:=by
 unfold GX.yc at*
 rw[eQ]at*
 omega
def GX.Y2{b:GX}{a c g r:Int}(u:b.yc a=true):(b.Za a c&&b.Y3 a c g r)=b.JI a c g r:=by
 have w:kH (b.e a) (b.e g)=true->a<c->b.WK a c (GX.Ah (b.e a).dP)=b.WK (a+1) c (GX.Ah (b.e a).dP):=by
  intro d q;have⟨t,f⟩:=eQ.1 u;unfold GX.WK;have s:b.ev.drop a.toNat=b.e a::b.ev.drop (a+1).toNat:=by
   rw[show(a+1).toNat=a.toNat+1 by omega,aH f];congr 1;unfold GX.e lq uR;rw[aq t];simp[f]
  rw[s,show(c-a).toNat=(c-(a+1)).toNat+1 by omega,List.take_succ_cons,bZ];have v:GX.Ah (b.e a).dP (b.e a)=true:=by
   unfold GX.Ah;unfold kH m6 at d;simp only[ax,bY,aI]at d;rcases d.1.1.1 with h|h<;>simp[h]
  rw[v,aU]
 unfold GX.Za GX.Y3 GX.JI;by_cases d:kH (b.e a) (b.e g)=true
 ·by_cases q:a<c
  ·rw[w d q];rw[bp];simp only[ax,aI,bK,bj];constructor
   ·rintro⟨⟨⟨⟨f,i⟩,j⟩,k⟩,⟨⟨⟨l,m⟩,n⟩,o⟩,p⟩;exact⟨⟨⟨⟨⟨⟨⟨⟨f,l⟩,i.symm⟩,m⟩,λh=>n h.symm⟩,o⟩,p⟩,k⟩,j⟩
   ·rintro⟨⟨⟨⟨⟨⟨⟨⟨f,l⟩,i⟩,m⟩,n⟩,o⟩,p⟩,k⟩,j⟩;exact⟨⟨⟨⟨f,i.symm⟩,j⟩,k⟩,⟨⟨⟨l,m⟩,λh=>n h.symm⟩,o⟩,p⟩
  ·simp[q]
 ·rw[Bool.not_eq_true]at d;simp[d]
def GX.ae6(f:GX)(e:im):f.vG e=f.vR e:=by
 unfold GX.vG GX.vR;by_cases g:e.kind=1
 ·rw[aq g,ao J,aq g];by_cases j:e.c=0;rotate_left
  ·simp[j]
  by_cases k:e.d=0;rotate_left
  ·simp[k]
  rw[j,k];cases i:f.yc e.a with
  |false=>simp
  |true=>rw[GX.in0 i];cases f.yc e.b<;>simp
 rw[ao g];by_cases l:e.kind=2
 ·rw[aq l,aq l];unfold GX.dead;rw[GX.YF]
 rw[ao l,ao l];by_cases h:e.kind=3
 ·rw[aq h,ao g,aq h];by_cases j:e.c=0;rotate_left
  ·simp[j]
  by_cases k:e.d=0;rotate_left
  ·simp[k]
  rw[j,k];cases i:f.yc e.a with
  |false=>simp
  |true=>rw[GX.in0 i];cases f.yc e.b<;>simp
 rw[ao h];by_cases m:e.kind=4
 ·rw[aq m,ao g,ao h,aq m];cases i:f.yc e.a with
  |false=>simp
  |true=>
   rw[<-GX.Y2 i];cases (f.yc e.b)<;>cases f.yc e.c<;>cases f.yc e.d<;>simp[Bool.and_assoc]
 rw[ao m,ao g,ao h,ao m];simp
def gC(a:List Int):im:=⟨2,0,0,0,0,a⟩
def jF(a b:Nat):List Nat:=List.range' a (b-a)
def BP(d:Nat)(b:List Int->Bool)(go:List Int->Int->Bool):Nat->List Int->List (List Int)
 |0,a=>if b a=true then [a]else []
 |k+1,a=>(if b a=true then [a]else [])++(jF ((a.getD 0 0).toNat+1) d).flatMap λ(c:Nat)=>if go a c=true then BP d b go k (a++[(c:Int)])else []
def MC{k:Nat}{e:List Int->Bool}{go:List Int->Int->Bool}:∀(b:Nat) (c a:List Int),a∈BP k e go b c->e a=true/\∃d,a=c++d:=by
 intro b;induction b with
 |zero=>
  intro c a h;unfold BP at h;split at h
  ·simp at h;subst h;exact⟨by assumption,[],dy⟩
  ·simp at h
 |succ b i=>
  intro c a h;unfold BP at h;rw[List.mem_append]at h;rcases h with h|h
  ·split at h
   ·simp at h;subst h;exact⟨by assumption,[],dy⟩
   ·simp at h
  ·rw[cD]at h;obtain⟨j,_,h⟩:=h;split at h
   ·have⟨f,d,g⟩:=i _ _ h;exact⟨f,(j:Int)::d,by rw[g];simp⟩
   ·simp at h
def UM{n:Nat}{ok:List Int->Bool}{go:List Int->Int->Bool}(g:∀(a e:List Int) (b:Int),ok (a++b::e)=true->go a b=true):∀(c:Nat) (a:List Int),BP n ok go c a=BP n ok (λ_ _=>true) c a:=by
 intro c;induction c with
 |zero=>intro a;rfl
 |succ c i=>
  intro a;unfold BP;congr 1;congr 1;funext b;rw[aq rfl,<-i];by_cases d:go a b=true
  ·rw[aq d]
  ·rw[ao d];symm;rw[List.eq_nil_iff_forall_not_mem];intro j h;obtain⟨f,e,rfl⟩:=MC _ _ _ h;exact d (g a e b (by simpa using f))
def pO(a:List Int):Int:=a.getD (a.length-1) 0
def GX.RO{o:GX}{h:Int->Int->Bool}{a d:List Int}{b:Int}(n:a≠ [])(e:o.Ga h (a++b::d)=true):h b (pO a)=true/\b∉a:=by
 unfold GX.Ga at e;simp only[ax,bW]at e;have p:0<a.length:=List.length_pos_iff.2 n;have g:(a++b::d).length=a.length+1+d.length:=dz;have i:(a++b::d).getD a.length 0=b:=by simp[List.getD]
 refine⟨?_,λm=>?_⟩
 ·have c:=(e.2 (a.length-1) (by rw[cu,g];omega)).1.2;rw[show a.length-1+1=a.length by omega,Nat.mod_eq_of_lt (by rw[g];omega),i]at c;have f:(a++b::d).getD (a.length-1) 0=pO a:=by
   unfold pO;simp[List.getD,cv (show a.length-1<a.length by omega)]
  rwa[f]at c
 ·have⟨k,j,l⟩:=db m;have c:=(e.2 a.length (by rw[cu,g];omega)).2 k (by rw[cu];omega);rw[i]at c;have f:(a++b::d).getD k 0=b:=by
   simp only[List.getD,cv j,az j,l,Option.getD_some]
  rw[f]at c;simp at c
def GX.Bf(b:GX)(d:Nat):List (List Int):=BP b.ev.length (λa=>b.vR (gC a)) (λa c=> !decide (c∈a)&&b.nW c (pO a)) 3 [(d:Int)]
def GX.dx(a:GX)(b:List Int):a.vR (gC b)=a.Ga a.nW b:=by
 unfold GX.vR GX.dead gC;simp
def YE{d:Nat}{e:List Int->Bool}{go go':List Int->Int->Bool}(f:∀(a:List Int) (b:Int),a≠ []->go a b=go' a b):∀(c:Nat) (a:List Int),a≠ []->BP d e go c a=BP d e go' c a:=by
 intro c;induction c with
 |zero=>intro a _;rfl
 |succ c h=>
  intro a g;unfold BP;congr 1;congr 1;funext b;rw[f a b g,h (a++[(b:Int)]) dy]
def GX.n(a:GX):Nat:=a.ev.length
def kr(b:im->Bool)(a:im):List im:=if b a=true then [a]else []
def gR(a b:Nat):im:=⟨1,a,b,0,0,[]⟩
def gL(a b:Nat):im:=⟨3,a,b,0,0,[]⟩
def gA(a b c d:Nat):im:=⟨4,a,b,c,d,[]⟩
def GX.mO(a:GX):List im:=
 ((List.range a.n).flatMap λ(b:Nat)=>(List.range a.n).flatMap λ(c:Nat)=>kr a.vR (gR b c))++
 ((List.range a.n).flatMap λ(b:Nat)=>(a.Bf b).map gC)++
 ((List.range a.n).flatMap λ(b:Nat)=>(List.range a.n).flatMap λ(c:Nat)=>kr a.vR (gL b c))++
 ((
  List.range a.n).flatMap λ(b:Nat)=>(jF (b+1) a.n).flatMap λ(c:Nat)=>
  if(a.e b).dP=(a.e c).dP/\m6 (a.e b)=true/\m6 (a.e c)=true then(List.range a.n).flatMap λ(d:Nat)=>(jF d a.n).flatMap λ(f:Nat)=>kr a.vR (gA b c d f)else [])
section
def lH(a:ej):Int:=if a.kind=18 then a.value else-1
def sY(b:dZ)(a:ej):Bool:=if a.kind=1\/a.kind=2 then decide (a.ji=-1)else(match uR b.iJ a.ji with|some c=>decide (c.dP=a.dP)|none=>false)
def sizeOf(b:dZ)(a:Int):Int:=((uR b.cells a).getD default).size
def MD(b:dZ)(a:ej):Bool:=decide (a.mt=[])||decide (a.kind=5)||(m6 a&& !decide (sizeOf b a.obj=0))
def Mw(a:ej):Bool:=decide (a.uN=[])||decide (a.kind=4)||decide (a.kind=22)
def qH(c:dZ)(b:ew)(a:ej):Bool:=
 mH c b&&iP a.dP c.dH.length&&(decide (1<=a.kind)&&decide (a.kind<=23))&&js c b.fj a.dP a.kind a.obj&&sY c a&&MD c a&&Mw a&&
  yB (b.count.getD a.dP.toNat 0) none a.mt&&yB (b.count.getD a.dP.toNat 0) none a.uN&&oF b a
def kh(c:dZ)(b:ew)(a:ej):ew:=
 ⟨(fg c b.fj a.dP a.kind a.obj (lH a)).1,if a.kind=4 then b.cells.set a.obj.toNat a.value else b.cells,if a.kind=22 then b.d8.set a.obj.toNat a.value else b.d8,b.count.modify a.dP.toNat (· +1)⟩
def tP:ew:=⟨⟨[],0,[],[]⟩,[],[],[]⟩
def jW(c:dZ)(b:ew)(a:ej):ew×Bool:=if qH c b a=true then(kh c b a,true)else(tP,false)
section
variable {S E:Type}
def rD(ok:S->E->Bool)(nx:S->E->S):S->List E->Bool
 |_,[]=>true
 |s,a::b=>ok s a&&rD ok nx (nx s a) b
def yq(nx:S->E->S):S->List E->List S
 |_,[]=>[]
 |s,a::b=>s::yq nx (nx s a) b
def xa(go:S->E->S):S->List E->S
 |s,[]=>s
 |s,a::b=>xa go (go s a) b
variable {ok:S->E->Bool}{nx go:S->E->S}
def Ki:∀(a:List E) (b:S),(yq nx b a).length=a.length:=by
 intro a;induction a with
 |nil=>intro b;rfl
 |cons d a c=>intro b;simp[yq,c]
def Ny(f:∀a b,ok a b=true->go a b=nx a b):∀(c d:List E) (a:S),rD ok nx a (c++d)=(rD ok nx a c&&rD ok nx (xa go a c) d):=by
 intro c;induction c with
 |nil=>intro d a;simp[rD,xa]
 |cons b c g=>
  intro d a;simp only[cE,rD,xa];cases e:ok a b with
  |true=>rw[g,f a b e,aU,aU]
  |false=>simp
def JP:∀(a b:List E) (c:S),xa go c (a++b)=xa go (xa go c a) b:=by
 intro a;induction a with
 |nil=>intro b c;rfl
 |cons e a d=>intro b c;simp only[cE,xa,d]
def Kj(g:∀a d,ok a d=true->go a d=nx a d):∀(c:List E) (a:S) (b:Nat),rD ok nx a c=true->b<c.length->(yq nx a c)[b]? =some (xa go a (c.take b)):=by
 intro c;induction c with
 |nil=>intro a b _ f;simp at f
 |cons d c h=>
  intro a b e f;simp only[rD,ax]at e;cases b with
  |zero=>simp[yq,xa]
  |succ b=>
   simp only[yq,dh,List.take_succ_cons,xa];rw[g a d e.1];exact h _ b e.2 (by simpa using f)
def Pz(g:∀b a,ok b a=true->go b a=nx b a):∀(d:List E) (b:S) (c:Nat) (a:E),rD ok nx b d=true->d[c]? =some a->ok (xa go b (d.take c)) a=true:=by
 intro d;induction d with
 |nil=>intro b c a _ e;simp at e
 |cons i d h=>
  intro b c a f e;simp only[rD,ax]at f;cases c with
  |zero=>simp at e;subst e;simpa[xa]using f.1
  |succ c=>
   simp only[List.take_succ_cons,xa];rw[g b i f.1];exact h _ c a f.2 (by simpa using e)
def SU{I:S->Prop}(e:∀a c,I a->I (go a c)):∀(b:List E) (a:S),I a->I (xa go a b):=by
 intro b;induction b with
 |nil=>intro a d;exact d
 |cons c b f=>intro a d;exact f _ (e a c d)
end
def runs(a:dZ):ew->List ej->Bool:=rD (qH a) (kh a)
def Ps(a:dZ):ew->List ej->List ew:=yq (kh a)
def pJ(w:dZ):ew->List ej->ew:=xa λb a=>(jW w b a).1
def ue{c:dZ}(b:ew)(a:ej)(d:qH c b a=true):(jW c b a).1=kh c b a:=by unfold jW;rw[aq d]
def Nu(c:dZ)(a:List ej)(b:ew):(Ps c b a).length=a.length:=Ki a b
def CS(b:dZ)(c d:List ej)(a:ew):runs b a (c++d)=(runs b a c&&runs b (pJ b a c) d):=Ny (go:=λa e=>(jW b a e).1) ue c d a
def AI{e:dZ}{a:List ej}{d:ew}(b:runs e d a=true)(c:Nat):runs e d (a.take c)=true:=by
 rw[<-cT c a,CS,ax]at b;exact b.1
def Py{c:dZ}{a:List ej}{f:ew}(d:runs c f a=true)(b e:Nat):runs c (pJ c f (a.take b)) ((a.drop b).take e)=true:=by
 rw[<-cT b a,CS,ax]at d;exact AI d.2 e
def Nv{d:dZ}(b:List ej)(a:ew)(c:Nat)(f:runs d a b=true)(g:c<b.length):(Ps d a b)[c]? =some (pJ d a (b.take c)):=Kj (go:=λa e=>(jW d a e).1) ue b a c f g
def TT{d:dZ}(c:List ej)(b:ew)(e:Nat)(a:ej)(f:runs d b c=true)(g:c[e]? =some a):qH d (pJ d b (c.take e)) a=true:=Pz (go:=λb a=>(jW d b a).1) ue c b e a f g
def pX{c:dZ}{d:ew}{a:ej}(b:qH c d a=true):mH c d=true/\iP a.dP c.dH.length=true/\js c d.fj a.dP a.kind a.obj=true:=by
 unfold qH at b;simp only[ax]at b;exact⟨b.1.1.1.1.1.1.1.1.1,b.1.1.1.1.1.1.1.1.2,b.1.1.1.1.1.1.2⟩
structure yn(w:dR):Prop where
 len:w.dJ.length<=16
 pL:w.ez.dH.length<=4
 run:runs w.ez w.jG w.dJ=true
 BS:w.jG.fj.BS
def dR.gx(c:dR):GX:=⟨c.ez,c.dJ,(Ps c.ez c.jG c.dJ).map ew.fj⟩
def yn.ok{a:dR}(b:yn a){i:Nat}{e:ej}(c:a.dJ[i]? =some e):qH a.ez (pJ a.ez a.jG (a.dJ.take i)) e=true:=TT _ _ _ _ b.run c
def yn.st{a:dR}(c:yn a){b:Nat}(d:b<a.dJ.length):a.gx.st[b]? =some (pJ a.ez a.jG (a.dJ.take b)).fj:=by
 unfold dR.gx;rw[aW,Nv _ _ _ c.run d];rfl
def yn.e{a:dR}(d:yn a){i:Int}(g:iP i a.dJ.length=true):∃e,a.dJ[i.toNat]? =some e/\a.gx.e i=e/\iP e.dP a.ez.dH.length=true/\jN a.ez e.kind e.obj=true:=by
 have⟨f,b⟩:=eQ.1 g;refine⟨a.dJ[i.toNat],by simp[b],?_,?_⟩
 ·unfold GX.e lq uR dR.gx;rw[aq f];simp[b]
 ·have:=d.ok (i:=i.toNat) (e:=a.dJ[i.toNat]) (by simp[b]);have⟨_,h,c⟩:=pX this;refine⟨h,?_⟩;unfold js at c;simp only[ax]at c;exact c.1.2
def yn.s{a:dR}(c:yn a){i:Int}(g:iP i a.dJ.length=true):a.gx.s i=(pJ a.ez a.jG (a.dJ.take i.toNat)).fj/\lA a.ez (a.gx.s i)=true:=by
 have⟨f,d⟩:=eQ.1 g;have h:=c.st d;have b:a.gx.s i=(pJ a.ez a.jG (a.dJ.take i.toNat)).fj:=by
  unfold GX.s uR;rw[aq f,h];rfl
 refine⟨b,?_⟩;rw[b];have:=(pX (c.ok (i:=i.toNat) (e:=a.dJ[i.toNat]) (by simp[d]))).1;unfold mH at this;simp only[ax]at this;exact this.1.1.1
def Kh{b:dZ}{a:ew}{c:ej}(d:a.fj.BS):(jW b a c).1.fj.BS:=by
 unfold jW;split
 ·exact vI d b _ _ _ _
 ·intro e hl;simp[tP]at hl
def Vl{d:dZ}(c:List ej)(a:ew)(b:a.fj.BS):(pJ d a c).fj.BS:=SU (I:=λa=>a.fj.BS) (λ_ _ b=>Kh b) c a b
def ly(a:dZ):fH:=⟨a.ei.map λ_=>⟨-1,[]⟩,-1,a.d8.map λ_=>false,(List.range a.dH.length).map λb=>⟨if b=0 then 1 else 0,0,false⟩⟩
def jY(a:dZ):ew:=⟨ly a,a.cells.map io.jG,a.d8.map λ_=>0,a.dH.map λ_=>0⟩
def sW(a:dZ):(jY a).fj.BS:=by
 intro b hl;unfold jY ly at hl;simp only[List.mem_map]at hl;obtain⟨_,_,rfl⟩:=hl;exact List.Pairwise.nil
def xU(b:dZ)(c:List ej)(d a:Nat):dR:=⟨b,a,pJ b (jY b) (c.take a),(c.drop a).take d⟩
def Pf{a:dZ}{d:List ej}(e:runs a (jY a) d=true)(ht:a.dH.length<=4){b:Nat}(f:b<=16)(c:Nat):yn (xU a d b c):=
 ⟨by simp[xU];omega,ht,Py e c b,Vl _ _ (sW a)⟩
end
def uA(c:Int)(b:List Int):List ej->Nat->Int
 | [],_=>-1
 |e::d,a=>if e.dP=c/\¬(a:Int)∈b then a else uA c b d (a+1)
def vf(c:Int):List ej->Nat->Int->Int
 | [],_,_=>-1
 |e::d,a,b=>if e.dP=c then(if b=0 then(a:Int)else vf c d (a+1) (IntKind.i64.wrap (b-1)))else vf c d (a+1) b
def jl(c:dR)(a:eK)(b:Int):Int:=uA b a.order c.dJ 0
def vP(a:List Bool)(b:Int):Bool:=(uR a b).getD false
def yH(d:dR)(b:List Bool)(c first a:Int):Bool:=decide (a<first)||vP b (vf c d.dJ 0 (IntKind.i64.wrap (a-first)))
def mZ(c:dR)(d:eK)(b:Int)(a:List Int):Bool:=match uR c.jG.count b with
 |some first=>a.all (yH c d.fixed b first)
 |none=>decide (a=[])
def ju(a:dR)(b:eK)(c:Int):Bool:=
 if jl a b c<0 then false
 else js a.ez b.fj c (lq a.dJ (jl a b c)).kind (lq a.dJ (jl a b c)).obj&&mZ a b c (lq a.dJ (jl a b c)).mt
def cont(a:Bool)(b:Int):gh:=if a=true then⟨b,true⟩else⟨0,false⟩
def fixC(a:List gh)(b c:Int):Bool:=decide (uR a b=some ⟨c,true⟩)
def W7:eK:=⟨⟨[],0,[],[]⟩,[],[],[],[],[]⟩
def DV(e:dR)(b:eK)(c:Int)(a:ej)(d f:Int):eK:=
 ⟨
  (fg e.ez b.fj d a.kind a.obj f).1,
  if a.kind=4 then b.cells.set a.obj.toNat (cont (mZ e b d a.uN) a.value)else b.cells,
  if a.kind=22 then b.d8.set a.obj.toNat (cont (mZ e b d a.uN) a.value)else b.d8,
  b.order++[c],
  if a.kind=3 then b.fixed.set c.toNat (fixC b.cells a.obj a.value)else if a.kind=23 then b.fixed.set c.toNat (fixC b.d8 a.obj a.value)else b.fixed,
  if a.kind=18 then(if 0<=(fg e.ez b.fj d a.kind a.obj f).2 then b.qt.set c.toNat 1 else b.qt)
   else if a.kind=19 then b.qt.set c.toNat (fg e.ez b.fj d a.kind a.obj f).2 else b.qt⟩
def uU(b:dR)(c:eK)(a:gF):eK×Bool:=
 if ju b c a.dP=true then(DV b c (jl b c a.dP) (lq b.dJ (jl b c a.dP)) a.dP a.wc,true)else(W7,false)
def lU(a:dR):eK:=⟨a.jG.fj,a.jG.cells.map λb=>⟨b,true⟩,a.jG.d8.map λb=>⟨b,true⟩,[],List.replicate a.dJ.length false,List.replicate a.dJ.length 0⟩
def ow(a:dR)(b:eK)(c:Int):List Int:=
 if 0<=jl a b c/\(lq a.dJ (jl a b c)).kind=18/\iA (lq a.dJ (jl a b c)).obj b.fj.dH 0≠ []then iA (lq a.dJ (jl a b c)).obj b.fj.dH 0 else [-1]
def nd(c:dR)(b:eK)(e:Nat):List gF:=(List.range e).flatMap λ(a:Nat)=>if ju c b a=true then(ow c b a).map λd=>⟨a,d⟩else []
def oZ(a:dR):List Int->List gF->eK->List gF×eK
 | [],c,b=>(c,b)
 |n::d,c,b=>if nd a b a.ez.dH.length=[]then(c,b)
  else oZ a d (c++[(nd a b a.ez.dH.length).getD (n% (nd a b a.ez.dH.length).length).toNat default]) (uU a b ((nd a b a.ez.dH.length).getD (n% (nd a b a.ez.dH.length).length).toNat default)).1
def pi(a:dR)(c:eK)(b:Int):Bool:=decide (jl a c (lq a.dJ b).dP=b)&&ju a c (lq a.dJ b).dP
def place(a:eK)(b:Int):Int:=po a.order b 0
def Bo(a:eK)(b:Int):Bool:=decide (uR a.qt b=some 0)
def xg(g:dR)(f:eK)(e:im):Bool:=
 if e.kind=1 then pi g f e.a&&pi g f e.b
 else if e.kind=2 then e.iS.all λh=>decide (jl g f (lq g.dJ h).dP=h)&&(!decide ((lq g.dJ h).kind=17)||decide ((nS f.fj (lq g.dJ h).dP).iE=4))
 else if e.kind=3 then decide (f.order.getLast?=some e.b)&&decide (0<=place f e.a)&&Bo f e.a
 else decide (0<=place f e.a)&&decide (place f e.a<place f e.c)&&decide (0<=place f e.d)&&pi g f e.b
structure xc(N:Nat)(w:dR)(c:eK):Prop where
 fx:c.fixed.length=w.dJ.length
 wk:c.qt.length=w.dJ.length
 ce:w.dJ≠ []->c.cells.length=w.ez.cells.length
 fu:w.dJ≠ []->c.d8.length=w.ez.d8.length
 ft:w.dJ≠ []->lA w.ez c.fj=true
 rd:∀l∈c.fj.ei,l.eJ.length<=N
 BS:c.fj.BS
 od:c.order.length<=N
def allI{b:Type}(a:Nat->b->Bool):Nat->List b->Bool
 |_,[]=>true
 |k,d::c=>a k d&&allI a (k+1) c
def vj(a:Nat):Bool:=decide (97<=a/\a<=122)||decide (65<=a/\a<=90)
def D7(a:Nat):Bool:=decide (48<=a/\a<=57)
def wP(a:Nat):Bool:=vj a||D7 a||decide (a=95)
def nO:List (List Nat):=[[118,97,114],[118,111,108,97,116,105,108,101],[109,117,116,101,120],[114,119,108,111,99,107],[99,111,110,100],[102,117,116,117,114,101],[116,104,114,101,97,100],[105,102],[101,108,115,101],[119,104,105,108,101],[108,111,99,107],[114,101,97,100],[119,114,105,116,101],[116,114,97,110,115,97,99,116,105,111,110],[97,116,111,109,105,99],[119,97,105,116],[110,111,116,105,102,121],[110,111,116,105,102,121,97,108,108],[115,112,97,119,110],[106,111,105,110],[115,101,116],[103,101,116]]
def uH(a:List Nat):Bool:=decide (a∈nO)
def Mr(a:List Nat):Bool:=match a with|c::_=>vj c| []=>false
def uD(a:List Nat):Bool:=decide (1<=a.length)&&decide (a.length<=12)&& !uH a&&Mr a&&a.all wP
def wJ(a:List (List Nat)):Bool:=a.all uD&&decide a.Nodup
def L3(a:io)(c:List io):Bool:=allI (λb d=>decide (d={a with index:=b,ud:=false})) 0 (c.take a.size.toNat)
def jf:List io->aa (List (List Nat))
 | []=>some []
 |c::a=>if c.size=0 then(if c.index=0 then(jf a).map (c.name:: ·)else none)
  else if d:c.size<1\/4<c.size\/(a.length+1:Int)<c.size then none
  else if L3 c (c::a)=true then(jf ((c::a).drop c.size.toNat)).map (c.name:: ·)else none
 termination_by b=>b.length
 decreasing_by
  ·simp
  ·simp;omega
def lV(b:Nat):Int->Int->List iK->Bool
 |_,_,[]=>true
 |t,d,a::c=>if a.dP<t\/(b:Int)<=a.dP then false else
  if t<a.dP then(if a.stmt=0 then lV b a.dP 1 c else false)else(if a.stmt=d then lV b t (d+1) c else false)
def uF(c:dZ)(a:Int)(rw:Bool):Bool:=match uR c.ei a with|some b=>b.rW==rw|none=>false
def sX(a:dZ):Bool:=decide (a.cells.length<=12)&&decide (a.ei.length<=4)&&decide (a.gJ.length<=2)&&decide (a.d8.length<=2)&&decide (a.iJ.length<=60)&&decide (1<=a.dH.length)&&decide (a.dH.length<=4)
def rM(a:dZ)(b:List (List Nat)):List (List Nat):=b++a.ei.map (·.name)++a.gJ.map (·.name)++a.d8++a.dH
def CB(a:dZ):Bool:=match jf a.cells with|none=>false|some b=>wJ (rM a b)
def ka(a:dZ):Bool:=sX a&&CB a&&(a.gJ.all λb=>uF a b.kJ false)&&lV a.dH.length 0 0 a.iJ
def xf(c:dZ)(b:Int):Bool:=match uR c.cells b with|some a=>decide (a.size=0)|none=>false
def Bl(d:dZ)(b c:Int):Bool:=match uR d.cells b with|some a=>decide (a.index=0)&& !decide (a.size=0)&&decide (a.size=c)|none=>false
def jd(d:fR):List Int:=
 if d.op=1\/d.op=6\/d.op=10\/d.op=27 then [d.a]else if d.op=2\/d.op=3 then [d.a,d.b]else if d.op=4 then [d.a,d.b,d.c]
 else if d.op=7 then [d.a,d.c]else if d.op=8\/d.op=26 then [d.b]else if d.op=9 then [d.b,d.c]else []
def mL(d:dZ)(c:fR):Bool:=
 if c.op=6 then xf d c.b else if c.op=8 then xf d c.a else if c.op=7 then Bl d c.b c.n else if c.op=9 then Bl d c.a c.n
 else if c.op=11\/c.op=12 then uF d c.a false else if c.op=13\/c.op=14\/c.op=15\/c.op=16 then uF d c.a true
 else if c.op=21\/c.op=22\/c.op=23 then iP c.a d.gJ.length else if c.op=24\/c.op=25 then iP c.a d.dH.length
 else if c.op=26 then iP c.a d.d8.length else if c.op=27 then iP c.b d.d8.length
 else if c.op=3 then decide (c.n=4\/c.n=5)else if c.op=4 then decide (6<=c.n/\c.n<=18)else true
def xe(a:Int):Bool:=decide (1<=a/\a<=5)
def La(b:fR)(c:Int):Int:=if b.op=5 then b.a else c+1
def DC(c:List fR):Nat->Int->Bool
 |0,_=>false
 |m+1,b=>match uR c b with
  |none=>false
  |some a=>if xe a.op=true then DC c m (La a b)else true
def AD(a:dM):Bool:=decide (a.iE=3)||decide (a.iE=4)
def HM{b a:Type}(e:b->a->Bool)(f:List a->a->Bool)(d:b->a->b):List a->b->List a->Bool
 |_,_,[]=>true
 |pre,g,c::h=>(e g c&&f pre c)&&HM e f d (pre++[c]) (d g c) h
def OK{c a:Type}{g:c->a->Bool}{j:List a->a->Bool}{f:c->a->c}:∀(b h:List a) (e:c),HM g j f h e b=true->rD g f e b=true:=by
 intro b;induction b with
 |nil=>intro _ _ _;rfl
 |cons k b i=>
  intro h e d;simp only[HM,ax]at d;simp only[rD,ax];exact⟨d.1.1,i _ _ d.2⟩
def Tr(b:List ej)(a:ej):Bool:=wt b a.dP a.mt&&wt b a.dP a.uN
def qp(a:dZ)(b:List ej):Bool:=decide (b.length<=400)&&ka a&&HM (qH a) Tr (kh a) [] (jY a) b
def Ao{b:dZ}{c:List ej}(a:qp b c=true):runs b (jY b) c=true/\b.dH.length<=4/\c.length<=400:=by
 unfold qp at a;simp only[ax,aI]at a;refine⟨OK _ _ _ a.2,?_,a.1.1⟩;have d:=a.1.2;unfold ka sX at d;simp only[ax,aI]at d;omega
structure rQ(N:Nat)(s:ew):Prop where
 l:s.fj.ei.length<=1000/\s.fj.done.length<=1000/\s.fj.dH.length<=1000/\s.cells.length<=1000/\s.d8.length<=1000/\s.count.length<=1000
 r:∀l∈s.fj.ei,l.eJ.length<=N
 a:s.fj.BS
 c:∀c∈s.count,-N<=c/\c<=N
def rQ.up{f e:Nat}{g:ew}(b:rQ f g)(j:f<=e):rQ e g:=⟨b.l,λi d=>by have:=b.r i d;omega,b.a,λh d=>by have:=b.c h d;omega⟩
def Yf{b:Nat}{c:fH}{i:Int}{d:dU->dU}(e:∀a∈c.ei,a.eJ.length<=b)(g:∀a∈c.ei,(d a).eJ.length<=b+1):∀a∈(c.rg i d).ei,a.eJ.length<=b+1:=by
 intro a hl;rcases mem_modify hl with f|⟨j,h,rfl⟩
 ·have:=e a f;omega
 ·exact g j h
def Gk{d:Nat}{j:fH}(k:∀a∈j.ei,a.eJ.length<=d)(p:dZ)(h m n q:Int):∀a∈(fg p j h m n q).1.ei,a.eJ.length<=d+1:=by
 have c:∀a∈j.ei,a.eJ.length<=d+1:=λa o=>by have:=k a o;omega
 have l:∀(f:Int) (b:dU->dU),(∀a,(b a).eJ=a.eJ\/(b a).eJ=mp a.eJ h\/(b a).eJ=a.eJ.filter λg=> !decide (g=h))->∀a∈(j.rg f b).ei,a.eJ.length<=d+1:=λf b i=>Yf k λa hl=>by
  have r:=k a hl;rcases i a with e|e|e<;>rw[e]
  ·omega
  ·have:=Ja a.eJ h;omega
  ·have:=List.length_filter_le (λg=> !decide (g=h)) a.eJ;omega
 exact vJ (P:=λg=>∀a∈g.1.ei,a.eJ.length<=d+1) c c (λ_ _ _=>c) (λf b i=>⟨l f b i,λ_ _=>l f b i⟩) (λ_=>c) (λ_ _=>c) (λ_=>c)
def Ng(a:Nat):rQ a tP:=⟨by simp[tP],by simp[tP],by intro b hl;simp[tP]at hl,by simp[tP]⟩
def rQ.step{e:Nat}{f:ew}(d:rQ e f)(h:dZ)(b:ej):rQ (e+1) (jW h f b).1:=by
 unfold jW;split
 ·have hl:=vH h f.fj b.dP b.kind b.obj (lH b);have⟨l1,l2,l3,l4,l5,l6⟩:=d.l;refine⟨⟨by show(fg ..).1.ei.length<=_;omega,by show(fg ..).1.done.length<=_;omega,by show(fg ..).1.dH.length<=_;omega,?_,?_,?_⟩,Gk d.r _ _ _ _ _,vI d.a _ _ _ _ _,λg i=>?_⟩
  ·unfold kh;simp only;split<;>simp[l4]
  ·unfold kh;simp only;split<;>simp[l5]
  ·unfold kh;simp[l6]
  ·rcases mem_modify (show g∈f.count.modify b.dP.toNat (· +1)from i)with k|⟨m,j,rfl⟩
   ·have:=d.c g k;omega
   ·have:=d.c m j;omega
 ·exact(Ng e).up (Nat.le_succ e)
def rQ.pJ{w:dZ}:∀(a:List ej) {b:Nat} {c:ew},rQ b c->rQ (b+a.length) (pJ w c a):=by
 intro a;induction a with
 |nil=>intro b c d;exact d
 |cons e a f=>
  intro b c d;have:=f (d.step w e);rw[show b+1+a.length=b+(e::a).length by simp;omega]at this;exact this
def uV(a:dZ)(d:a.ei.length<=1000/\a.d8.length<=1000/\a.dH.length<=1000/\a.cells.length<=1000):rQ 0 (jY a):=by
 refine⟨by simp[jY,ly];omega,λe hl=>?_,sW a,λc b=>?_⟩
 ·simp[jY,ly]at hl;obtain⟨_,rfl⟩:=hl;simp
 ·simp[jY]at b;omega
end
end Go.Proofs.YtajpdafdickapaaGreatDoor
namespace Go.TI
noncomputable section
section
attribute [-simp] eY eg
section
def gT(a:Bool)(b:T):T:=match a with|true=>b|false=> .undef
def mgT(a:Bool)(b c:T):T:=match a with|true=>b|false=>c
@[simp]theorem acn (b:Bool) (a:T):mgT b a a=a:=by cases b<;>rfl
@[simp]theorem agT (a:Bool) (b:T):mgT a b .undef=gT a b:=by cases a<;>rfl
@[simp]theorem agS (a:Bool) (b:T):mgT a .undef b=gT (!a) b:=by cases a<;>rfl
@[simp]theorem agU (a b c:Bool):mgT a (.bool b) (.bool c)= .bool (bif a then b else c):=by cases a<;>rfl
def X8(a:Bool)(b c:fZ):fZ:=match a with|true=>b|false=>c
@[simp]theorem acl (b:Bool) (a:fZ):X8 b a a=a:=by cases b<;>rfl
@[simp]theorem acm (a:Bool) (b:Nat) (e g:T) (c d:fZ):X8 a (.cons b e c) (.cons b g d)= .cons b (mgT a e g) (X8 a c d):=by cases a<;>rfl
def vV:fZ->Nat->T->fZ
 | .nil,_,_=> .nil
 | .cons a e b,c,d=>if a=c then .cons a d b else .cons a e (vV b c d)
@[simp]def Nx (a c:Nat) (e d:T) (b:fZ):vV (.cons a e b) c d=if a=c then .cons a d b else .cons a e (vV b c d):=id rfl
def uh:∀{c:fZ} {b:Nat} {d:T},dL c b=some d->vV c b d=c
 | .nil,_,_,_=>rfl
 | .cons e i g,b,d,h=>by
  rw[mG]at h;rw[Nx];by_cases a:e=b
  ·rw[aq a]at h;simp only[ar]at h;rw[aq a,h]
  ·rw[ao a]at h;rw[ao a,uh h]
def EA(a:Nat):List Oper->List Oper
 | []=>[]
 |o::c=>match o.guard with|some (b,_)=>if a<=b then o::EA a c else []|none=>[]
def MB(b:Nat):List Oper->List Oper
 | []=>[]
 |o::a=>match o.guard with|some (c,_)=>if b<=c then MB b a else o::a|none=>o::a
def Pn(b:Nat):∀a,EA b a++MB b a=a
 | []=>rfl
 |o::a=>by
  unfold EA MB;cases o.guard with
  |none=>rfl
  |some c=>
   simp only;split
   ·rw[cE,Pn b a]
   ·rfl
section
variable {cx:Ctx}{cf:je}{mask:Nat}
@[simp]def agM (c:Nat) (b:aa Tmp) (e:Op) (i:ab) (g:String) (a:af Edge) (d:List Oper):EA c (⟨b,e,i,g,a,none⟩::d)=[]:=id rfl
@[simp]def ag3 (i:Nat) (b:aa Tmp) (d:Op) (g:ab) (e:String) (a:af Edge) (c:List Oper):MB i (⟨b,d,g,e,a,none⟩::c)=⟨b,d,g,e,a,none⟩::c:=id rfl
@[simp]def agN (a b:Nat) (d:Bool) (e:aa Tmp) (i:Op) (k:ab) (j:String) (c:af Edge) (g:List Oper):EA a (⟨e,i,k,j,c,some (b,d)⟩::g)=if a<=b then⟨e,i,k,j,c,some (b,d)⟩::EA a g else []:=id rfl
@[simp]def ag4 (a b:Nat) (e:Bool) (g:aa Tmp) (i:Op) (k:ab) (j:String) (d:af Edge) (c:List Oper):MB a (⟨g,i,k,j,d,some (b,e)⟩::c)=if a<=b then MB a c else⟨g,i,k,j,d,some (b,e)⟩::c:=id rfl
def wq(a:af Oper)(c:Oper)(g:List Oper)(b:Env)(h:H):
 kG cx cf mask a (c::g) b h=dW (yZ cx cf mask a b h c) λi=>two i λj e=>dW (b.dst mask c.dst j) λd=>kG cx cf mask a g d e:=by
 show(dW (lJ cx cf mask a b h c) λi=>two i λd e=>kG cx cf mask a g d e)=_;rw[rJ]
def tR(b:af Oper):∀(c d:List Oper) (a:Env) (h:H),kG cx cf mask b (c++d) a h=dW (kG cx cf mask b c a h) λi=>two i λe g=>kG cx cf mask b d e g
 | [],_,_,_=>rfl
 |o::c,d,a,h=>by
  rw[cE,wq,wq];cases yZ cx cf mask b a h o with
  |none=>rfl
  |some i=>
   obtain⟨j,g⟩:=i;simp only[ed,kN];cases a.dst mask o.dst j with
   |none=>rfl
   |some e=>simp only[ed];exact tR b c d e g
def rK(cx:Ctx)(cf:je)(mask:Nat)(b:af Oper)(a:List Oper)(d c:fZ)(h:H):aa (Env×H):=kG cx cf mask b a ⟨d,c⟩ h
def SG(l:aa (T×H))(cx:Ctx)(cf:je)(mask:Nat)(e:af Oper)(a:aa Tmp)(d:List Oper)(k i:fZ):aa (Env×H):=
 dW l λg=>two g λj c=>dW (Env.dst mask ⟨k,i⟩ a j) λb=>kG cx cf mask e d b c
@[simp]def abB (c:af Oper) (b a:fZ) (h:H):rK cx cf mask c [] b a h=some (⟨b,a⟩,h):=id rfl
def RL(d b:fZ)(a:Tmp)(c:T):Env.dst mask ⟨d,b⟩ (some a) c=some (if(mask>>>a)&&&1=1 then⟨put d a c,b⟩else⟨d,.cons a c b⟩):=by
 show @Bool.rec (λ_=>aa Env) (some ⟨d,.cons a c b⟩) (dW (mc d a c) λe=>some ⟨e,b⟩) (kq mask a)=_;rw[pU];have:=DB mask a;cases hl:kq mask a with
 |true=>rw[aq (by rw[<-this];exact hl)];rfl
 |false=>rw[ao (by rw[<-this,hl];simp)]
@[simp]theorem aeR (e:T) (h:H) (c:af Oper) (a:Tmp) (b:List Oper) (g d:fZ):SG (some (e,h)) cx cf mask c (some a) b g d=
 if(mask>>>a)&&&1=1 then rK cx cf mask c b (put g a e) d h else rK cx cf mask c b g (.cons a e d) h:=by
 unfold SG;rw[ed,kN,RL,ed];split<;>rfl
def G3(o:aa Tmp)(i:aa Bool)(m:Nat)(l:Bool)(cx:Ctx)(cf:je)(mask:Nat)(g:af Oper)(c:aa Tmp)(e:Op)(p:ab)(n:String)(k:af Edge)(d:List Oper)(b a:fZ)(h:H):aa (Env×H):=
 SG (dW i λj=> @Bool.rec (λ_=>aa (T×H)) (some (.undef,h)) (fin cf h (jr e cx mask ⟨b,a⟩ h)) j) cx cf mask g c d b a
def Ko(a:af Oper)(j:aa Tmp)(k:Op)(m:ab)(l:String)(i:af Edge)(c:Nat)(b:Bool)(d:List Oper)(g e:fZ)(h:H)(n:aa Tmp):
 rK cx cf mask a (⟨j,k,m,l,i,some (c,b)⟩::d) g e h=G3 n (kC a mask ⟨g,e⟩ (some (c,b))) c b cx cf mask a j k m l i d g e h:=wq a _ d _ h
@[simp]def Ii (b:List Oper) (i:aa Tmp) (k:Op) (m:ab) (l:String) (g:af Edge) (a:Nat) (c:Bool) (j:List Oper) (e d:fZ) (h:H):
 rK cx cf mask b.toArray (⟨i,k,m,l,g,some (a,c)⟩::j) e d h=G3 (dW (b[a]?) λn=>n.dst) (kC b.toArray mask ⟨e,d⟩ (some (a,c))) a c cx cf mask b.toArray i k m l g j e d h:=Ko b.toArray i k m l g a c j e d h _
@[simp]def aeX (m:aa Tmp) (k:Nat) (j:Bool) (g:af Oper) (c:aa Tmp) (e:Op) (n:ab) (l:String) (i:af Edge) (d:List Oper) (b a:fZ) (h:H):G3 m (some true) k j cx cf mask g c e n l i d b a h=SG (fin cf h (jr e cx mask ⟨b,a⟩ h)) cx cf mask g c d b a:=id rfl
@[simp]def adH (m:aa Tmp) (j:Nat) (i:Bool) (c:af Oper) (a:aa Tmp) (k:Op) (n:ab) (l:String) (g:af Edge) (b:List Oper) (e d:fZ) (h:H):G3 m (some false) j i cx cf mask c a k n l g b e d h=SG (some (.undef,h)) cx cf mask c a b e d:=id rfl
def Zq(a:Bool)(g i:aa (Env×H))(cx:Ctx)(cf:je)(mask:Nat)(c:af Oper)(e:List Oper):aa (Env×H):=dW (bif a then g else i) λd=>two d λb h=>kG cx cf mask c e b h
@[congr] theorem aam {a b:Bool} {g i j k:aa (Env×H)} {c:af Oper} {d e:List Oper} (l:a=b) (m:g=i) (n:j=k) (hr:d=e):Zq a g j cx cf mask c d=Zq b i k cx cf mask c e:=by rw[l,m,n,hr]
@[simp]theorem ae4 (a:Bool) (g d i e:fZ) (h:H) (b:af Oper) (c:List Oper):Zq a (some (⟨g,d⟩,h)) (some (⟨i,e⟩,h)) cx cf mask b c=rK cx cf mask b c (X8 a g i) (X8 a d e) h:=by cases a<;>rfl
def Mz{e c:fZ}{a:Tmp}{d:T}(g:(mask>>>a)&&&1=0)(b:Env.get mask ⟨e,c⟩ a=some d):dL c a=some d:=by
 rw[Co,ao J]at b;exact b
def PC{b:List Oper}{g:Tmp}{i:Bool}{a:List Oper}{d c:fZ}{h:H}(e:Nat)(n:(mask>>>g)&&&1=0)(m:Env.get mask ⟨d,c⟩ g=some (.bool i)):
 rK cx cf mask b.toArray a d c h=Zq i (rK cx cf mask b.toArray (EA e a) d (vV c g (.bool true)) h) (rK cx cf mask b.toArray (EA e a) d (vV c g (.bool false)) h) cx cf mask b.toArray (MB e a):=by
 have j:=Mz n m;have:rK cx cf mask b.toArray a d c h=dW (rK cx cf mask b.toArray (EA e a) d c h) λo=>two o λk l=>kG cx cf mask b.toArray (MB e a) k l:=by
  show kG cx cf mask b.toArray a ⟨d,c⟩ h=_
  conv=>lhs;rw[<-Pn e a]
  exact tR _ _ _ _ _
 rw[this];cases i
 ·conv=>lhs;rw[<-uh j]
  rfl
 ·conv=>lhs;rw[<-uh j]
  rfl
def Tf(d:List Oper)(b:Tmp)(o:Bool)(a:Nat)(c:Bool)(g:aa Tmp)(j:Op)(l:ab)(k:String)(e:af Edge)(i:List Oper)(n m:fZ)(h:H)(r:Bool)
 (s:(mask>>>b)&&&1=0) (p:(dW (d[a]?) λu=>u.dst)=some b) (q:Env.get mask ⟨n,m⟩ b=some (.bool o)) (t:r=(o==c)):
 G3 (some b) (some r) a c cx cf mask d.toArray g j l k e i n m h=
  Zq o (rK cx cf mask d.toArray (EA a (⟨g,j,l,k,e,some (a,c)⟩::i)) n (vV m b (.bool true)) h) (rK cx cf mask d.toArray (EA a (⟨g,j,l,k,e,some (a,c)⟩::i)) n (vV m b (.bool false)) h) cx cf mask d.toArray (MB a (⟨g,j,l,k,e,some (a,c)⟩::i)):=by
 subst t;rw[<-PC a s q,Ii,p,CF,p,ed,q,CE]
@[simp low] theorem aeY (c:List Oper) (b:Tmp) (e:Bool) (a:Nat) (g:aa Tmp) (j:Op) (l:ab) (k:String) (d:af Edge) (i:List Oper) (n m:fZ) (h:H)
 (q:(mask>>>b)&&&1=0) (o:(dW (c[a]?) λr=>r.dst)=some b) (p:Env.get mask ⟨n,m⟩ b=some (.bool e)):
 G3 (some b) (some e) a true cx cf mask c.toArray g j l k d i n m h=
  Zq e (rK cx cf mask c.toArray (EA a (⟨g,j,l,k,d,some (a,true)⟩::i)) n (vV m b (.bool true)) h) (rK cx cf mask c.toArray (EA a (⟨g,j,l,k,d,some (a,true)⟩::i)) n (vV m b (.bool false)) h) cx cf mask c.toArray (MB a (⟨g,j,l,k,d,some (a,true)⟩::i)):=
 Tf c b e a true g j l k d i n m h e q o p dy 
@[simp low] theorem aeZ (d:List Oper) (b:Tmp) (c:Bool) (a:Nat) (g:aa Tmp) (j:Op) (l:ab) (k:String) (e:af Edge) (i:List Oper) (n m:fZ) (h:H)
 (q:(mask>>>b)&&&1=0) (o:(dW (d[a]?) λr=>r.dst)=some b) (p:Env.get mask ⟨n,m⟩ b=some (.bool !c)):
 G3 (some b) (some c) a false cx cf mask d.toArray g j l k e i n m h=
  Zq (!c) (rK cx cf mask d.toArray (EA a (⟨g,j,l,k,e,some (a,false)⟩::i)) n (vV m b (.bool true)) h) (rK cx cf mask d.toArray (EA a (⟨g,j,l,k,e,some (a,false)⟩::i)) n (vV m b (.bool false)) h) cx cf mask d.toArray (MB a (⟨g,j,l,k,e,some (a,false)⟩::i)):=
 Tf d b (!c) a false g j l k e i n m h c q o p (by cases c<;>rfl)
def G2(o:aa Tmp)(j:aa Bool)(m:Nat)(l:Bool)(cx:Ctx)(cf:je)(mask:Nat)(e:af Oper)(b:aa Tmp)(d:Op)(p:ab)(n:String)(k:af Edge)(c:List Oper)(i g:fZ)(h:H)(a:iR):Prop:=GK j cx cf mask e b d c i g h a
@[simp]def OX (b:List Oper) (j:aa Tmp) (l:Op) (n:ab) (m:String) (i:af Edge) (a:Nat) (c:Bool) (k:List Oper) (e d:fZ) (h:H) (g:iR):
 RK cx cf mask b.toArray (⟨j,l,n,m,i,some (a,c)⟩::k) e d h g=G2 (dW (b[a]?) λo=>o.dst) (kC b.toArray mask ⟨e,d⟩ (some (a,c))) a c cx cf mask b.toArray j l n m i k e d h g:=eY b.toArray j l n m i a c k e d h g
@[simp]def ae0 (n:aa Tmp) (l:Nat) (k:Bool) (i:af Oper) (d:aa Tmp) (g:Op) (o:ab) (m:String) (j:af Edge) (e:List Oper) (b a:fZ) (h:H) (c:iR):G2 n (some true) l k cx cf mask i d g o m j e b a h c=XK (fin cf h (jr g cx mask ⟨b,a⟩ h)) cx cf mask i d e b a c:=id rfl
@[simp]theorem adI (n:aa Tmp) (k:Nat) (j:Bool) (d:af Oper) (b:aa Tmp) (l:Op) (o:ab) (m:String) (i:af Edge) (c:List Oper) (g e:fZ) (h:H) (a:iR):G2 n (some false) k j cx cf mask d b l o m i c g e h a=XK (some (.undef,h)) cx cf mask d b c g e a:=by
 unfold XK;rw[Ax];rfl
def BG(c:Bool)(g i:aa (Env×H))(cx:Ctx)(cf:je)(mask:Nat)(d:af Oper)(e:List Oper)(b:iR):Prop:=
 (c=true->∃a h,g=some (a,h)/\RK cx cf mask d e a.vars a.tmps h b)/\(c=false->∃a h,i=some (a,h)/\RK cx cf mask d e a.vars a.tmps h b)
@[congr] theorem adP {b c:Bool} {i j k l:aa (Env×H)} {d:af Oper} {e g:List Oper} {a:iR} (m:b=c) (n:i=j) (o:k=l) (hr:e=g):BG b i k cx cf mask d e a=BG c j l cx cf mask d g a:=by rw[m,n,o,hr]
@[simp]def agE (c:Bool) (k i l j:fZ) (h:H) (e:af Oper) (g:List Oper) (d:iR):BG c (some (⟨k,i⟩,h)) (some (⟨l,j⟩,h)) cx cf mask e g d=RK cx cf mask e g (X8 c k l) (X8 c i j) h d:=by
 unfold BG;apply propext;cases c
 ·constructor
  ·intro a;have⟨m,n,b,hr⟩:=a.2 rfl;simp only[ar,aB]at b;obtain⟨rfl,rfl⟩:=b;exact hr
  ·exact λa=>⟨λo=>by grind,λ_=>⟨_,_,rfl,a⟩⟩
 ·constructor
  ·intro a;have⟨m,n,b,hr⟩:=a.1 rfl;simp only[ar,aB]at b;obtain⟨rfl,rfl⟩:=b;exact hr
  ·exact λa=>⟨λ_=>⟨_,_,rfl,a⟩,λo=>by grind⟩
def Zg(e:af Oper)(g q:List Oper)(j i:fZ)(h:H)(k:iR):RK cx cf mask e (g++q) j i h k=∃l a,rK cx cf mask e g j i h=some (l,a)/\RK cx cf mask e q l.vars l.tmps a k:=by
 apply propext;show(∃b a,kG cx cf mask e (g++q) ⟨j,i⟩ h=some (b,a)/\k.n ⟨b.vars,.nil⟩ a)↔_;rw[tR];constructor
 ·rintro⟨b,a,c,p⟩;have⟨⟨m,o⟩,d,c⟩:=dI.1 c;exact⟨m,o,d,b,a,c,p⟩
 ·rintro⟨m,o,d,b,a,c,p⟩;have d:kG cx cf mask e g ⟨j,i⟩ h=some (m,o):=d;exact⟨b,a,by rw[d];exact c,p⟩
def Tg(i:List Oper)(k:Tmp)(o:Bool)(a:Nat)(b:Bool)(d:aa Tmp)(g:Op)(l:ab)(j:String)(c:af Edge)(e:List Oper)(n m:fZ)(h:H)(p:iR)(t:Bool)
 (v:(mask>>>k)&&&1=0) (q:(dW (i[a]?) λx=>x.dst)=some k) (r:Env.get mask ⟨n,m⟩ k=some (.bool o)) (w:t=(o==b)):
 G2 (some k) (some t) a b cx cf mask i.toArray d g l j c e n m h p=
  BG o (rK cx cf mask i.toArray (EA a (⟨d,g,l,j,c,some (a,b)⟩::e)) n (vV m k (.bool true)) h) (rK cx cf mask i.toArray (EA a (⟨d,g,l,j,c,some (a,b)⟩::e)) n (vV m k (.bool false)) h) cx cf mask i.toArray (MB a (⟨d,g,l,j,c,some (a,b)⟩::e)) p:=by
 subst w;have s:=Mz v r;have u:G2 (some k) (some (o==b)) a b cx cf mask i.toArray d g l j c e n m h p=RK cx cf mask i.toArray (⟨d,g,l,j,c,some (a,b)⟩::e) n m h p:=by
  rw[OX,q,CF,q,ed,r,CE]
 rw[u]
 conv=>lhs;rw[<-Pn a (⟨d,g,l,j,c,some (a,b)⟩::e)]
 rw[Zg];unfold BG;apply propext;cases o
 ·conv=>lhs;rw[<-uh s]
  simp
 ·conv=>lhs;rw[<-uh s]
  simp
@[simp low] theorem ae1 (c:List Oper) (b:Tmp) (e:Bool) (a:Nat) (g:aa Tmp) (j:Op) (l:ab) (k:String) (d:af Edge) (i:List Oper) (n m:fZ) (h:H) (o:iR)
 (r:(mask>>>b)&&&1=0) (p:(dW (c[a]?) λs=>s.dst)=some b) (q:Env.get mask ⟨n,m⟩ b=some (.bool e)):
 G2 (some b) (some e) a true cx cf mask c.toArray g j l k d i n m h o=
  BG e (rK cx cf mask c.toArray (EA a (⟨g,j,l,k,d,some (a,true)⟩::i)) n (vV m b (.bool true)) h) (rK cx cf mask c.toArray (EA a (⟨g,j,l,k,d,some (a,true)⟩::i)) n (vV m b (.bool false)) h) cx cf mask c.toArray (MB a (⟨g,j,l,k,d,some (a,true)⟩::i)) o:=
 Tg c b e a true g j l k d i n m h o e r p q dy 
@[simp low] theorem ae2 (d:List Oper) (b:Tmp) (c:Bool) (a:Nat) (g:aa Tmp) (j:Op) (l:ab) (k:String) (e:af Edge) (i:List Oper) (n m:fZ) (h:H) (o:iR)
 (r:(mask>>>b)&&&1=0) (p:(dW (d[a]?) λs=>s.dst)=some b) (q:Env.get mask ⟨n,m⟩ b=some (.bool !c)):
 G2 (some b) (some c) a false cx cf mask d.toArray g j l k e i n m h o=
  BG (!c) (rK cx cf mask d.toArray (EA a (⟨g,j,l,k,e,some (a,false)⟩::i)) n (vV m b (.bool true)) h) (rK cx cf mask d.toArray (EA a (⟨g,j,l,k,e,some (a,false)⟩::i)) n (vV m b (.bool false)) h) cx cf mask d.toArray (MB a (⟨g,j,l,k,e,some (a,false)⟩::i)) o:=
 Tg d b (!c) a false g j l k e i n m h o c r p q (by cases c<;>rfl)
def Zr{c:Bool}{g i:aa (Env×H)}{d:af Oper}{e:List Oper}{b:iR}(j:c=true->∃a h,g=some (a,h)/\RK cx cf mask d e a.vars a.tmps h b)(k:c=false->∃a h,i=some (a,h)/\RK cx cf mask d e a.vars a.tmps h b):BG c g i cx cf mask d e b:=⟨j,k⟩
def KC{a d e:Bool}{h:H}{b c:aa lQ}(g:a=true->b=some (.val (.bool d) h))(i:a=false->c=some (.val (.bool e) h)):ny (some (.bool a)) b c=some (.val (.bool (bif a then d else e)) h):=by
 cases a
 ·exact i rfl
 ·exact g rfl
@[simp]def ad2 (a b:aa lQ):ny (some (.bool true)) a b=a:=id rfl
@[simp]def abQ (b a:aa lQ):ny (some (.bool false)) b a=a:=id rfl
@[simp]def agQ (a b c:Bool) (h:H):ny (some (.bool a)) (some (.val (.bool b) h)) (some (.val (.bool c) h))=some (.val (.bool (bif a then b else c)) h):=KC (λ_=>rfl) (λ_=>rfl)
@[simp]def agP (a c d b:Bool) (h:H) (g:a=false->b=true):ny (some (.bool a)) (some (.val (.bool c) h)) (some (.val (gT b (.bool d)) h))=some (.val (.bool (bif a then c else d)) h):=KC (λ_=>rfl) (λe=>by rw[g e];rfl)
@[simp]def agO (a c d b:Bool) (h:H) (g:a=true->b=true):ny (some (.bool a)) (some (.val (gT b (.bool c)) h)) (some (.val (.bool d) h))=some (.val (.bool (bif a then c else d)) h):=KC (λe=>by rw[g e];rfl) (λ_=>rfl)
end
def kv(th:aj->aa li):Op->Bool
 | .move _| .assign _| .pick .. | .load .. | .nilCheck _| .unOp .. | .binOp .. | .fieldAddr .. | .field .. | .indexAddr .. | .index .. | .extract .. | .slice .. =>true
 | .call b=>(match b.callee with
  | .builtin a=>(match a with| .len| .min| .max=>true|_=>false)
  | .value c=>(match c with| .func f=>(th f).isNone|_=>false)
  |_=>false)
 |_=>false
section
variable {th:aj->aa li}
@[simp]def adZ (a:ah):kv th (.move a)=true:=id rfl
@[simp]def ZD (a:ah):kv th (.assign a)=true:=id rfl
@[simp]def adY (a b c:ah):kv th (.pick a b c)=true:=id rfl
@[simp]def ad0 (a:ab) (b:ah):kv th (.load a b)=true:=id rfl
@[simp]def V4 (a:ah):kv th (.nilCheck a)=true:=id rfl
@[simp]def adX (a:UnOp) (b:ab) (c:ah):kv th (.unOp a b c)=true:=id rfl
@[simp]def abM (a:BinOp) (b:ab) (d e:ah) (c:ab):kv th (.binOp a b d e c)=true:=id rfl
@[simp]def TZ (a:ab) (b:ah) (f:Nat):kv th (.fieldAddr a b f)=true:=id rfl
@[simp]def abJ (a:ab) (b:ah) (f:Nat):kv th (.field a b f)=true:=id rfl
@[simp]def TY (a:ab) (b c:ah):kv th (.indexAddr a b c)=true:=id rfl
@[simp]def XA (b:ah) (a:Nat):kv th (.extract b a)=true:=id rfl
@[simp]def abI (d:ab) (e:ah) (a b c:aa ah):kv th (.slice d e a b c)=true:=id rfl
@[simp]def abK (f:aj) (a:af ah) (b:af ab):kv th (.call ⟨.value (.func f),a,b⟩)=(th f).isNone:=id rfl
@[simp]def afs (a:af ah) (b:af ab):kv th (.call ⟨.builtin .len,a,b⟩)=true:=id rfl
@[simp]def afr (a:af ah) (b:af ab):kv th (.call ⟨.builtin .min,a,b⟩)=true:=id rfl
@[simp]def abN (a:ab):kv th (.alloc a)=false:=id rfl
@[simp]def abH (a:ab) (b c:ah):kv th (.store a b c)=false:=id rfl
@[simp]def abL (b:ab) (a:af (Nat×ah)):kv th (.build b a)=false:=id rfl
@[simp]def Ts (c:ab) (a:Nat) (b:af (Nat×ah)):kv th (.buildSlice c a b)=false:=id rfl
end
def Kp(th:aj->aa li)(h:H)(e:aa lQ):Prop:=∀a,e=some a->(∀d b,a= .val d b->b=h)/\∀f c,a= .call f c->th f=none
section
variable {th:aj->aa li}{h:H}
theorem Kp.val(b:aa T):Kp th h (val h b):=by
 intro c a;have⟨d,_,a⟩:=dI.1 a
 grind
def Kp.one(a:T):Kp th h (some (.val a h)):=Kp.val (some a)
theorem Kp.none:Kp th h none:=by intro a b;grind
theorem Kp.dW{α:Type}{e:aa α}{f:α->aa lQ}(d:∀a,Kp th h (f a)):Kp th h (dW e f):=by
 intro c b;have⟨a,_,b⟩:=dI.1 b;exact d a c b
theorem Kp.gX{b:Bool}{a:aa lQ}(e:Kp th h a):Kp th h (gX b a):=by
 intro c d;exact e c (dQ.1 d).2
def XJ{m:Op}(e:kv th m=true)(cx:Ctx)(mask:Nat)(s:Env):Kp th h (jr m cx mask s h):=by
 cases m<;>first|(simp[kv]at e;done)|skip
 case move x=>exact Kp.val _
 case assign x=>exact Kp.val _
 case pick k n j=>
  rw[Un];unfold ny;refine Kp.dW λa=>?_;cases a<;>first|exact Kp.none|grind [Kp.val]
 case load b n=>simp[Kp.val,Kp.dW]
 case nilCheck x=>exact Kp.dW λa=>by cases a<;>first|exact Kp.none|exact Kp.one _
 case unOp i b x=>simp[Kp.val,Kp.dW]
 case binOp i b x p D=>
  cases i<;>first
   |exact Kp.dW λ_=>Kp.dW λ_=>Kp.val _
   |exact Kp.dW λ_=>Kp.dW λ_=>Kp.dW λ_=>Kp.gX (Kp.dW λ_=>Kp.val _)
 case fieldAddr b x f=>
  exact Kp.dW λt=>Kp.dW λa=>by
   cases a<;>first|exact Kp.none|exact Kp.dW λ_=>Kp.one _
 case field b x f=>
  exact Kp.dW λt=>Kp.dW λ_=>Kp.dW λa=>by
   cases a<;>first|exact Kp.none|simp[Kp.val,Kp.dW]
 case indexAddr b x g=>
  exact Kp.dW λd=>Kp.dW λa=>Kp.dW λ_=>Kp.dW λg=>by
   cases d.u<;>first|exact Kp.none|(refine Kp.dW λv=>?_;first
    |(cases a<;>first|exact Kp.none|exact Kp.dW λ_=>Kp.gX (Kp.one _)|exact Kp.gX (Kp.dW λ_=>Kp.gX (Kp.gX (Kp.dW λ_=>Kp.one _))))
    |(refine Kp.gX ?_;cases a<;>first|exact Kp.none|exact Kp.dW λ_=>Kp.one _|(refine Kp.dW λq=>?_;cases Nat.beq q.sz v.size<;>first|exact Kp.dW λ_=>Kp.one _|simp[Kp.one,Kp.gX])))
 case index b x g=>
  exact Kp.dW λd=>Kp.dW λa=>Kp.dW λ_=>Kp.dW λg=>by
   cases d.u<;>first|exact Kp.none|(cases a<;>first|exact Kp.none|exact Kp.dW λ_=>Kp.val _|grind [Kp.val,Kp.dW,Kp.gX])
 case extract x g=>exact Kp.dW λa=>by cases a<;>first|exact Kp.none|exact Kp.val _
 case slice b x n j k=>exact Kp.dW λ_=>Kp.dW λ_=>Kp.gX (Kp.dW λ_=>Kp.dW λ_=>Kp.dW λ_=>Kp.gX (Kp.val _))
 rename_i k;obtain⟨r,w,C⟩:=k;cases r with
 |builtin j=>
  refine Kp.dW λl=>?_;cases j<;>first
   |(simp[kv]at e;done)
   |(match l with
    | []=>exact Kp.none
    | [x]=>first|exact Kp.none|(refine Kp.dW λb=>Kp.dW λd=>?_;cases d.u<;>first|exact Kp.none|exact Kp.val _|(cases x<;>first|exact Kp.none|exact Kp.val _))
    | [x,p]=>first|exact Kp.val _|exact Kp.none
    |x::p::E::l=>exact Kp.none)
 |value i=>
  cases i with
  |func f=>
   have z:(th f).isNone=true:=e;refine Kp.dW λl=>?_;intro y c;obtain⟨a,o,c⟩:=dI.1 c;simp only[NN,ar]at o;subst o;obtain⟨B,_,c⟩:=dI.1 c;simp only[ar]at c;subst c;simp_all
  |_=>simp[kv]at e
 |_=>grind [kv]
end
section
variable {P:ai}{cx:Ctx}{tb:fy}{mask:Nat}
def RH{j:Op}(o:kv tb.h j=true){e:Env}{h:H}{k:T}{c:H}(a:fin (rx P cx tb) h (jr j cx mask e h)=some (k,c)):c=h:=by
 have⟨d,m,a⟩:=dI.1 a;have⟨r,p⟩:=XJ o cx mask e d m;rcases d with⟨t,q⟩|⟨f,b⟩
 ·simp only[ar,aB]at a;rw[<-a.2];grind
 ·have n:=p _ _ rfl;have a:rx P cx tb f b h=some (k,c):=a;have g:hl P cx tb f b h=none:=by unfold hl;rw[n]
  rw[Sg]at a;cases i:SO h b with
  |none=>rw[i,Se,g]at a;grind
  |some l=>
   rw[i,Sd,g]at a;cases hr:rl P cx tb f l with
   |none=>rw[hr]at a;simp at a
   |some s=>
    rw[hr,Sf]at a
    grind
def Eq(j:af Oper)(k:List (Nat×Nat))(Q:fZ->H->Prop):∀(g:List Oper) (e:Nat) (m:List (Nat×Nat)) (d:List (Nat×H×H)) (b a:fZ) (h:H),(g.all λo=>kv tb.h o.op)=true->(∀l∈d,l.2.1=l.2.2)->
 LH cx (rx P cx tb) mask j k g e m d b a h Q=WR cx (rx P cx tb) mask j g b a h Q
 | [],e,m,d,b,a,h,_,_=>by rw[M8,S9]
 |o::g,e,m,d,b,a,h,n,q=>by
  simp only[bZ,ax]at n;rw[JQ,HY];unfold yZ;cases kC j mask ⟨b,a⟩ o.guard with
  |none=>apply propext;constructor<;>(first|exact False.elim|(rintro⟨i,c,F,_⟩;simp_all))
  |some C=>
   rw[ed];cases C with
   |false=>
    rw[JR,Ax];congr 1;funext b a;exact Eq j k Q g _ m d b a h n.2 q
   |true=>
    rw[M9];apply propext;have G:∀i c,fin (rx P cx tb) h (jr o.op cx mask ⟨b,a⟩ h)=some (i,c)->
     ((DK cx mask k e m d o.op ⟨b,a⟩ h c λm d=>WD mask o.dst i b a λb a=>LH cx (rx P cx tb) mask j k g (e+1) m d b a c Q)↔WD mask o.dst i b a λb a=>WR cx (rx P cx tb) mask j g b a c Q):=by
     intro i c y;have z:=RH n.1 y;subst z;have D:∀s,mW k e s d:=λs l n _=>by rw[q l n];simp
     have E:∀u v i,o.op≠ .store u v i:=λu v i B=>by have:=n.1;rw[B]at this;simp_all
     have t:∀r p,(∀l∈p,l.2.1=l.2.2)->((WD mask o.dst i b a λb a=>LH cx (rx P cx tb) mask j k g (e+1) r p b a c Q)↔WD mask o.dst i b a λb a=>WR cx (rx P cx tb) mask j g b a c Q):=by
      intro r p w;rw[show(λb a=>LH cx (rx P cx tb) mask j k g (e+1) r p b a c Q)=λb a=>WR cx (rx P cx tb) mask j g b a c Q from by funext b a;exact Eq j k Q g _ r p b a c n.2 w]
     unfold DK;split
     ·rw[Ll];show(True/\_)/\(WD mask o.dst i b a λb a=>LH cx (rx P cx tb) mask j k g (e+1) m (if lM k e=true then(e,c,c)::d else d) b a c Q)↔_;have x:∀l∈(if lM k e=true then(e,c,c)::d else d),l.2.1=l.2.2:=by
       grind
      rw[t _ _ x]
      grind
     ·cases ij cx mask ⟨b,a⟩ c o.op with
      |none=>exact t _ _ q
      |some s=>simp only;rw[t _ _ q];grind
    show(∃i c,_/\_)↔∃i c,_/\_
    grind
@[simp high] theorem aeT (a:List Oper) (d:List (Nat×Nat)) (b:fZ) (h:H) (c:iR) (e:(a.all λg=>kv tb.h g.op)=true):QK cx (rx P cx tb) mask a (some d) b h c=RK cx (rx P cx tb) mask a.toArray a b .nil h c:=
 Eq a.toArray d (λb h=>c.n ⟨b,.nil⟩ h) a 0 [] [] b .nil h e (λj i=>by grind)
end
def F0(b:T):Prop:=∃a,b= .int .i64 a
@[simp]def aeb (a:Int):F0 (.int .i64 a)=True:=by simp[F0]
section
variable {P:ai}{cx:Ctx}{f:aj}{α:Type}{A:α->List T}{pre:α->Prop}{Q:α->T->Prop}
noncomputable abbrev oa.jA(_:oa P cx f A pre Q):fP:=wR P cx f A pre Q
def oa.use(c:oa P cx f A pre Q)(a:α)(b:pre a):∃d,Q a d/\∀{tb:fy},tb.p f=some (wR P cx f A pre Q)->rl P cx tb f (A a)=some d:=⟨_,c.2 a b,λht=>gu ht c.1 a b⟩
end
section
variable {P:ai}{cx:Ctx}{f:aj}{α γ:Type}{A:α->List T}{pre:α->Prop}
def oa.fnI(d:oa P cx f A pre (λ_=>F0))(b:γ->α)(c:∀a,pre (b a)):∃e:γ->Int,∀{tb:fy},tb.p f=some (wR P cx f A pre (λ_=>F0))->∀a,rl P cx tb f (A (b a))=some (.int .i64 (e a)):=by
 refine⟨λa=>(d.2 (b a) (c a)).choose,λht a=>?_⟩;exact(gu ht d.1 (b a) (c a)).trans (bR some (d.2 (b a) (c a)).choose_spec)
end
@[simp]def ag8 (a:iX):hU 1 (hE.cons a)=True:=by simp;exact⟨dy,dy,dy⟩
@[simp]def ag7 (a b:iX):hU 2 ((hE.cons a).cons b)=True:=by simp;exact⟨dy,dy,dy⟩
@[simp]def ag6 (b c d a:iX):hU 4 ((((hE.cons b).cons c).cons d).cons a)=True:=by simp;exact⟨dy,dy,dy⟩
def oN(a:ak)(b c:Int):binop .add (.int a b) (.int a c)=some (.int a (a.wrap (b+c))):=by
 show gX (Ew a a) (qz a (b+c))=_;simp
def qX(a:ak)(b c:Int):binop .sub (.int a b) (.int a c)=some (.int a (a.wrap (b-c))):=by
 show gX (Ew a a) (qz a (b-c))=_;simp
def aci(a:ak)(b c:Int):binop .mul (.int a b) (.int a c)=some (.int a (a.wrap (b*c))):=by
 show gX (Ew a a) (qz a (b*c))=_;simp
def I7(c:T):Prop:=∃a b,c= .tuple [.int .i64 a,.int .i64 b]
@[simp]def aec (a b:Int):I7 (.tuple [.int .i64 a,.int .i64 b])=True:=by simp[I7]
