/- DFun -/
import Derived.Test.YtajpdafdickapaaGreatDoorA7
import Derived.Test.YtajpdafdickapaaGreatDoorProg
set_option linter.all false
set_option maxRecDepth 100000
set_option maxHeartbeats 8000000
namespace Go.Proofs.YtajpdafdickapaaGreatDoor
noncomputable section
open Go Go.TI Tryz
def iR:prog.follows .mixedOrders=true:=dG
def V3:jq.Ss λb a=>V4 prog b a.cmp=some a:=by
 unfold jq;repeat' first|exact .nil|refine .node ?_ dG ?_
def iE:jg prog cx:=⟨λb c a=>⟨_,V3.find a⟩⟩
end
end Go.Proofs.YtajpdafdickapaaGreatDoor
namespace Go.TI
noncomputable section
section
def hr(a:H):H:=⟨a.size,a.size,a.fH⟩
@[simp]def oq (a:H):(hr a).size=a.size:=id rfl
@[simp]def ik (a:H) (b:Nat):(hr a).get b=a.get b:=H.rR a a.size b
@[simp]def abX (a:H):Hp (hr a)=Hp a:=id rfl
def MD(f:Bool)(c:H)(g:List T)(e:H)(d:T->H->Prop):Prop:=∃b a,DF f c.size c.low (jP g) e=some (b,a)/\(d b a\/d (cn b) a)
section
variable {P:ai}{cx:Ctx}{cf:jd}{mask:Nat}
def ZD(L:P.follows .mixedOrders=true)(jq:jg P cx){m:aj}{a:Func}{r:DL}(h:EI P cx m a mask r)(C:nR P cx cf)(i:Bool){b:List T}{c:H}{u:T->H->Prop}(M:b.length<=a.ntmps)(j:Nat)
 (S:∀z,mV z 0 b->W (jy cx cf j mask r (a.body.getD .skip) ⟨z,.nil⟩ (hr c)) (zu cx mask a.results.toList λt f=>MD i c t f u)):∃d f,u d f/\p8 P cx ⟨m,b,c,d,f⟩:=by
 have⟨y,R,_,G⟩:=mO mask a.ntmps 0 b M;have⟨x,D,E,e,U,t,O,d,g,hl,hp⟩:=ED (S y G);have e:=qI _ h.dr _ _ _ e;have⟨B,s⟩:=Af h.ok;rw[s]at e;have I:tL cx cf j a mask i b c=some (d,g):=by
  unfold tL;rw[s];obtain⟨w,ap,A⟩:=c;simp only;rw[R,ed];have e:kc cx cf j mask B ⟨y,.nil⟩ ⟨w,w,A⟩=some (x,D,E):=e;rw[e,ed,lY];have Q:=oU O;rcases U with rfl|rfl<;>(simp only;rw[Q,ed];exact hl)
 have N:xQ ⟨a,mask,i,none⟩=true:=h.ok;have K:p8 P cx ⟨m,b,c,d,g⟩:=λk p q l o n=>pM (F:=⟨a,mask,i,none⟩) L jq h.at_ N cf C j b c d g I k p q l o n;rcases hp with hp|hp
 ·grind
 ·exact⟨cn d,g,hp,λk p q l o n=>(K k p q l o n).mono λv av ⟨⟨an,V,X,Y,ae⟩,al⟩=>⟨⟨an,V.cn,X,Y,ae⟩,al⟩⟩
def Jy{tb:fJ}{c:li}(l:P.follows .mixedOrders=true)(jq:jg P cx){f:aj}{d:Func}{e:DL}(o:EI P cx f d mask e)(i:Bool)(j:List T->H->Nat)(m:∀a b,c.pre a b->a.length<=d.ntmps)
 (n:∀a b,c.pre a b->∀k,mV k 0 a->W (jy cx (qZ P cx tb) (j a b) mask e (d.body.getD .skip) ⟨k,.nil⟩ (hr b)) (zu cx mask d.results.toList λp g=>MD i b p g (c.post a b))):c.Ok P cx f:=
 λa b h=>by
  have⟨s,g,q,r⟩:=ZD l jq o (Ep P cx tb) i (m a b h) (j a b) (n a b h)
  grind
end
def V2{P:ai}{cx:Ctx}{cf:jd}{mask:Nat}(H:P.follows .mixedOrders=true)(jq:jg P cx){p:aj}{c:Func}{w:DL}(j:EI P cx p c mask w)(C:nR P cx cf){b:List T}{m:T->Prop}(hl:mp b=true)(y:b.length<=c.ntmps)(k:Nat)
 (L:∀f,mV f 0 b->W (jy cx cf k mask w (c.body.getD .skip) ⟨f,.nil⟩ hE) (zu cx mask c.results.toList λA g=>∃a,m a/\Le g A a)):∃a,m a/\lh P cx p b a:=by
 have U:∃a,m a/\∀f,mV f 0 b->TI.dM f 0=TI.dM f 0->∃d,cn d=a/\tL cx cf k c mask false b hE=some (d,hE):=by
  have⟨l,z,_,s⟩:=mO mask c.ntmps 0 b y;have⟨V,D,g,e,M,A,hr,a,r,I,i⟩:=ED (L l s);have e:=qI _ j.dr _ _ _ e;have⟨B,h⟩:=Af j.ok;rw[h]at e;unfold NU at i;have⟨d,i,x⟩:=dI.1 i;simp only[au]at x;refine⟨a,r,λ_ _ _=>⟨d,x,?_⟩⟩;unfold tL;rw[h];simp only;rw[z,ed];have e:kc cx cf k mask B ⟨l,.nil⟩ ⟨0,0,[]⟩=some (V,D,g):=e;rw[e,ed,lY];have K:=oU hr;rcases M with rfl|rfl<;>(simp only;rw[K,ed];exact IB I i)
 obtain⟨a,r,G⟩:=U;have⟨l,z,_,s⟩:=mO mask c.ntmps 0 b y;obtain⟨d,rfl,h⟩:=G l s rfl;refine⟨cn d,r,?_⟩;have E:lh P cx p b d:=zf (ls _ hl) λn u v o t q=>
  pM (F:=⟨c,mask,false,none⟩) H jq j.at_ j.ok cf C k b hE d hE h n u v o t q
 intro n u v o g t q;refine(E n u v o g t q).mono λY ae ⟨⟨X,N,O,Q,R⟩,S⟩=>?_;exact⟨⟨X,N.cn,O,Q,R⟩,S⟩
def FS(b:T):Prop:=∃a,b= .bool a
def wE(a:Nat)(d:T)(b:H):nJ a d b=some (d,⟨b.size,if b.low<a then b.low else a,b.fH⟩):=by
 obtain⟨f,c,e⟩:=b;show @Bool.rec (λ_=>aa (T×H)) (some (d,⟨f,a,e⟩)) (some (d,⟨f,c,e⟩)) (Nat.blt c a)=_;by_cases hl:c<a
 ·rw[show Nat.blt c a=true by rw[aJ];exact hl,ar hl]
 ·rw[show Nat.blt c a=false by rw[dh];intro g;rw[aJ]at g;omega,aq hl]
def IR{h:H}(f:Hp h){a d:Nat}(e:a<=h.size){b:Nat}(c:b<a):(⟨a,d,h.fH.drop (h.size-a)⟩:H).get b=h.get b:=by
 rw[H.get_eq,H.get_eq];simp only;rw[ar c,ar J,bL]
 grind
def qD(a b:H)(j:List T){r:T}{k:T->H->Prop}(t:Hp a)(c:Fr a.size (hr a) b)(f:(dV (jn b a.size (jP j)) λq=>some (cn q))=some r)(n:k r a):MD false a j b k:=by
 have⟨p,f,i⟩:=dI.1 f;simp only[au]at i;unfold MD DF;simp only[f];have u:Hp b:=c.hp (by simp_all);have m:a.size<=b.low:=c.low (aw _);have s:a.size<=b.size:=c.size;have e:b.fH.drop (b.size-a.size)=a.fH:=by
  apply cB;intro d;rw[bL];rcases aR d a.size with hi|hi
  ·have h:=c.get (a.size-1-d) J;rw[ik,H.get_eq,H.get_eq,ar J,ar J]at h;rw[show b.size-a.size+d=b.size-1-(a.size-1-d)by omega,h]
   grind
  grind [Hp,bK]
 obtain⟨l,o,g⟩:=b;unfold uy;simp only;rw[mh,ar (by grind [Hp]),ed,show Nat.ble a.size o=true from bR m];refine⟨p,_,rfl,.inr ?_⟩;rw[i];have:(⟨a.size,a.low,List.drop (Nat.sub l a.size) g⟩:H)=a:=by
  have e:List.drop (Nat.sub l a.size) g=a.fH:=e;rw[e]
 rw[this];exact n
end
section
noncomputable section
variable {cx:Ctx}{mask:Nat}{e:Env}{h:H}
end
end
section
structure il(n:Nat)(h:H):Prop where
 hp:Hp h
 low:h.low<=h.size
 sz:n<=h.size
theorem il.cons{c:Nat}{b:H}(a:il c b)(d:iY):il c (b.cons d):=⟨by simpa using a.hp,by simp only[QQ];have:=a.low;grind [H.cons],by have:=a.sz;grind [H.cons]⟩
def il.ne{c:Nat}{a:H}(d:il c a){b:Nat}(e:b<c):(b=a.size)=False:=by have:=d.sz;grind
def il.V1{d c:Nat}{b:H}(a:il d b)(e:c<=d):il c b:=⟨a.hp,a.low,aT e a.sz⟩
def H4(c:H)(b:Nat)(g:iY):(dZ c b g).low<=c.low:=by
 unfold dZ;cases a:c.put b g with
 |none=>simp
 |some h=>
  obtain⟨e,d,j⟩:=c;have a:(gJ (Nat.blt b e) (dV (kO j (Nat.sub (Nat.sub e 1) b) g) λf=> @Bool.rec (λ_=>aa H) (some ⟨e,d,f⟩) (some ⟨e,b,f⟩) (Nat.blt b d)))=some h:=a;have⟨_,a⟩:=dQ.1 a;have⟨f,_,a⟩:=dI.1 a;show h.low<=d;cases i:Nat.blt b d<;>rw[i]at a<;>simp only[au]at a<;>subst a
  ·simp
  ·rw[aJ]at i;grind
theorem il.put{n:Nat}{a:H}(b:il n a)(d:Nat)(e:iY):il n (dZ a d e):=⟨by simpa using b.hp,by rw[fK];exact aT (H4 a d e) b.low,by rw[fK];exact b.sz⟩
structure qO(sz:Nat)(h h':H):Prop where
 get:∀c x,h.get c=some x->x.sz≠sz->h'.get c=some x
 ok:∀n,il n h->il n h'
 size:h.size<=h'.size
def qO.refl(d:Nat)(a:H):qO d a a:=⟨λ_ _ b _=>b,λ_ c=>c,aw _⟩
def qO.trans{c:Nat}{e f g:H}(a:qO c e f)(b:qO c f g):qO c e g:=⟨λd j k h=>b.get d j (a.get d j k h) h,λi l=>b.ok i (a.ok i l),aT a.size b.size⟩
theorem qO.cons(e:Nat)(a:H)(c:iY):qO e a (a.cons c):=⟨λf h b _=>by have:=H.fh b;rw[dS,aq J];exact b,λg d=>d.cons c,dy⟩
theorem qO.put{d:Nat}{b:H}{a:Nat}{x:iY}(f:b.get a=some x)(i:x.sz=d)(e:iY):qO d b (dZ b a e):=⟨λc k h j=>by
 rw[dN f]
 grind,λn g=>g.put a e,dy⟩
def sR.acy{cx:Ctx}{a:H}{d:T}{b:Nat}{e:List T}(r:sR a 0 d b e){n o j:ab}{t v c:Ty}(A:cx.ty n=some t)(B:t.u= .slice j)(C:cx.ty j=some c)(D:cx.ty o=some v)(E:v.u= .slice j)(s:c.size=b)(q:1<=c.bytes)
 {x:T} {xs:List T} (I:a.jw x=some xs) (l:∀y∈xs,y.cells.length=b) (G:(e.length+xs.length)*c.bytes<=70368744177664):
 ∃w k,iU cx a n o d x=some (.val w k)/\sR k 0 w b (e++xs)/\qO b a k:=by
 have F:iU cx a n o d x=jI (a.append c.size c.bytes d xs):=by
  unfold iU pX nc;rw[A,ed,D,ed];simp only[B,C,E,I,ed];rw[s,nq l,iH]
 rw[F,s];cases xs with
 |nil=>
  refine⟨d,a,?_,by grind,qO.refl _ _⟩;show jI (gJ (o9 d) (some (d,a)))=_;rcases r with⟨rfl,_⟩|⟨h,i,p,z,_,rfl,_⟩<;>rfl
 |cons f g=>
  rcases r with⟨rfl,rfl⟩|⟨h,i,p,z,K,rfl,m⟩
  ·refine⟨.arr a.size 0 0 (f::g).length false,a.cons ⟨b,0,0,false,false,f::g⟩,?_,.inr ⟨a.size,0,0,false,ax _,rfl,dy⟩,qO.cons _ _ _⟩;show jI (a.jo b c.bytes [] (f::g))=_;rw[pq l q (by grind)];rfl
  ·refine⟨.arr h (i+1) 0 (e++f::g).length false,dZ a h ⟨b,i+1,p+1,false,false,e++f::g⟩,?_,.inr ⟨h,i+1,p+1,false,K,rfl,by rw[dN m,ar rfl]⟩,qO.put m rfl _⟩;show jI (a.mN b c.bytes h i e.length (f::g))=_;rw[wW m l q G];rfl
def sR.VN{cx:Ctx}{f:H}{o:T}{b:Nat}{i:Type}{a:i->T}{e:List i}(s:sR f 0 o b (e.map a)){g k:ab}{n d:Ty}(l:cx.ty g=some n)(m:n.u= .slice k)(p:cx.ty k=some d)(t:d.size=b)(q:1<=d.bytes)
 (r:∀x,L9 (a x)=b) (xs:List i) (v:(e.length+xs.length)*d.bytes<=70368744177664):
 ∃h c,iU cx f g g o (sl (xs.map a))=some (.val h c)/\sR c 0 h b ((e++xs).map a)/\qO b f c:=by
 have⟨h,c,w,y,z⟩:=s.acy (x:=sl (xs.map a)) (xs:=xs.map a) l m p l m t q dy (by simpa using λj _=>show(a j).cells.length=b from r j) (by grind)
 grind
def sR.K5{cx:Ctx}{c:H}{n:T}{a:Nat}{i:Type}{b:i->T}{g:List i}(r:sR c 0 n a (g.map b)){h j:ab}{m e:Ty}(k:cx.ty h=some m)(l:m.u= .slice j)(o:cx.ty j=some e)(s:e.size=a)(p:1<=e.bytes)
 (q:∀x,L9 (b x)=a) (x:i) (y:(g.length+1)*e.bytes<=70368744177664):
 ∃f d,iU cx (c.cons ⟨a,0,0,true,false,[b x]⟩) h h n (.arr c.size 0 0 1 false)=some (.val f d)/\sR d 0 f a ((g++[x]).map b)/\qO a c d:=by
 have⟨f,d,t,v,w⟩:=(r.cons ⟨a,0,0,true,false,[b x]⟩).acy (x:= .arr c.size 0 0 1 false) (xs:=[b x]) k l o k l s p (by rw[ig];simp) (by simpa using show(b x).cells.length=a from q x) (by grind);exact⟨f,d,t,by rw[List.map_append];exact v,(qO.cons _ _ _).trans w⟩
def Ce{i:Env->H->Out}(b:Nat)(e:Nat->fW->H->Prop){h:iS}
 (n:∀k c a,k<=b->e k c a->W (i ⟨c,.nil⟩ a) (yr (λd a=>d.tmps= .nil/\∃f,k<f/\f<=b/\e f d.vars a) h)) {g:Nat} (o:b<g) {k:Nat} (l:k<=b) {c:fW} {a:H} (j:e k c a):W (oL i g ⟨c,.nil⟩ a) h:=by
 refine RY (σ:=Nat) (I:=λk d a=>k<=b/\d.tmps= .nil/\e k d.vars a) (m:=λk=>b-k) ?_ g k _ _ J ⟨l,rfl,j⟩;rintro k ⟨c,p⟩ a ⟨l,ht,j⟩
 grind
section
variable {cx:Ctx}
end
end
section
section
variable {P:ai}{cx:Ctx}
def I8{f:aj}{t:List T}{b c:H}{F G:T}(N:p8 P cx ⟨f,t,b,F,c⟩)(X:Hp c)(z:b.size<=c.size)
 (O:∀a h,a<b.size->c.get a=some h->c.get a=b.get a\/∀m∈fF h.fg,pZ b.size m) (R:jn c b.size F=some G):
 p8 P cx ⟨f,t,b,cn G,⟨b.size,c.low,c.fH.drop (c.size-b.size)⟩⟩:=by
 intro K w r L q i;refine(N K w r L q i).mono λm ap ⟨⟨s,ae,D,g,j⟩,p⟩=>?_;have v:∀a e,r a=some e->a<b.size:=λa e d=>q.fh d;have j:yJ r s b.size c.size:=j;have hl:∀a e h,a<b.size->s a=some e->c.get a=some h->∀m∈fF h.fg,pZ b.size m:=by
  intro a e h d i B;rcases O a h d B with he|he
  ·rcases j.2.1 a (by rw[i];simp)with k|k
   ·have⟨I,M⟩:=Option.ne_none_iff_exists'.1 k;have⟨av,o,W⟩:=q.box a I M;rw[<-he,B]at o;simp only[au]at o;subst o;exact W.low v
   ·omega
  omega
 have u:=St.cut (low:=c.low) D z hl;have x:∀a,a<b.size->(⟨b.size,c.low,c.fH.drop (c.size-b.size)⟩:H).get a=c.get a:=λa d=>IR X z d;refine⟨⟨mM b.size s,(vw D ae R).cn,u,⟨⟨g.ext.size,λY S V=>?_,λa e d=>?_,g.ext.py,g.ext.kept⟩,g.os,g.tape,g.output⟩,aw _,λa d=>?_,λa E l=>absurd E (by show¬b.size<=a;have l:a<b.size:=l;omega)⟩,?_⟩
 ·have⟨al,an⟩:=g.ext.nU Y S V
  grind [xn]
 ·rw[uH (v a e d)];exact g.ext.mu a e d
 ·left;have⟨e,i⟩:=Option.ne_none_iff_exists'.1 d;have⟨E,l⟩:=kl i;rcases j.2.1 a (by rw[l];simp)with k|k
  ·exact k
  ·omega
 ·refine⟨u.wf,aw _,p.low,λa d U=>?_,λa y C=>?_⟩
  ·rw[x a d];exact p.kT a d U
  ·rw[x a (H.fh C)];exact p.ver a y C
def KG{c d:H}(e:∀a,d.get a=c.get a)(n:Nat):∀b,freeze d n b=freeze c n b:=by
 grind [freeze,fQ,dV,takeN,j4,Nat.beq,gJ,Nat.ble]
def tX{a b:H}(i:∀e,b.get e=a.get e)(n:Nat)(c:T):jn b n c=jn a n c:=by
 have g:iP b n=iP a n:=by funext d;cases d<;>(unfold iP;simp only[KG i])
 have h:ky b n=ky a n:=by funext d;cases d<;>(unfold ky;simp only[g])
 cases c<;>(unfold jn;simp only[h])
end
def FT(e:H)(c:Nat->Prop):Nat->T->T->Prop
 |0,_,_=>False
 |d+1,a,g=>(j2 a=true/\(∀b,a≠ .agg b)/\g=cn a)\/
  (∃h l o m f j k,a= .arr h l o m f/\c h/\e.jw a=some j/\iM (FT e c d) j k/\g=sl k)\/
  (∃b i,a= .agg b/\iM (FT e c d) b i/\g= .agg i)
def iM.imp_mem{α h:Type}{d R':α->h->Prop}{c:List α}{g:List h}(i:iM d c g)(e:∀a∈c,∀b,d a b->R' a b):iM R' c g:=by
 induction i with
 |nil=>exact .nil
 |cons a _ j=>exact .cons (e _ dy _ a) (j λk l b=>e k (by grind) b)
def qC{α d:Type}{f:α->aa d}{b:List α}{c:List d}(g:iM (λa e=>f a=some e) b c):fQ f b=some c:=by
 induction g with
 |nil=>rfl
 |cons a _ h=>rw[jK,a,h];rfl
def FT.xS{h:H}{V:Nat->Prop}:∀{d:Nat} {v t:T},FT h V d v t->TI.xS h d v=some t:=by
 intro d;induction d with
 |zero=>intro v t c;exact c.elim
 |succ d g=>
  intro v t c;rcases c with⟨j,k,rfl⟩|⟨e,p,u,s,f,q,r,rfl,_,l,a,rfl⟩|⟨m,o,rfl,a,rfl⟩
  ·unfold TI.xS;rw[tJ h 0 d v j k];rfl
  ·rw[yx,l,ed,qC (a.imp λi e b=>g b)];rfl
  ·rw[TJ,qC (a.imp λi e b=>g b)];rfl
def IF{c d:H}{a b g e:Nat}{f:Bool}(h:d.get a=c.get a):d.jw (.arr a b g e f)=c.jw (.arr a b g e f):=by
 rw[ig,ig,h]
def FT.mono{k h':H}{i j:Nat->Prop}(m:∀a,i a->j a/\h'.get a=k.get a):∀{b:Nat} {e d:T},FT k i b e d->FT h' j b e d:=by
 intro b;induction b with
 |zero=>intro e d c;exact c.elim
 |succ b o=>
  intro e d c;rcases c with c|⟨a,s,x,w,f,t,u,rfl,l,v,g,rfl⟩|⟨q,r,rfl,g,rfl⟩
  ·exact .inl c
  ·exact .inr (.inl ⟨a,s,x,w,f,t,u,rfl,(m a l).1,by rw[IF (m a l).2];exact v,g.imp λp a h=>o h,rfl⟩)
  ·exact .inr (.inr ⟨q,r,rfl,g.imp λp a h=>o h,rfl⟩)
def FT.deep{k:H}{j:Nat->Prop}:∀{b a:Nat} {e d:T},b<=a->FT k j b e d->FT k j a e d:=by
 intro b;induction b with
 |zero=>intro a e d _ c;exact c.elim
 |succ b l=>
  intro a e d y c;obtain⟨a,rfl⟩:∃q,a=q+1:=⟨a-1,J⟩;rcases c with c|⟨g,r,x,w,f,s,t,rfl,u,v,h,rfl⟩|⟨o,p,rfl,h,rfl⟩
  ·exact .inl c
  ·exact .inr (.inl ⟨g,r,x,w,f,s,t,rfl,u,v,h.imp λm g i=>l J i,rfl⟩)
  ·exact .inr (.inr ⟨o,p,rfl,h.imp λm g i=>l J i,rfl⟩)
def FT.fz{h:H}{V:Nat->Prop}{v t:T}(l:FT h V 12 v t):TI.fz h v=some t:=by
 rcases l with⟨i,e,rfl⟩|⟨g,o,s,r,f,p,q,rfl,e,j,a,rfl⟩|⟨b,c,rfl,a,rfl⟩
 ·show(dV (iP h 0 v) λv=>some (cn v))=_;rw[qX h i e];rfl
 ·rw[wK,j,ed,qC (a.imp λm g k=>k.xS)];rfl
 ·have:=FT.xS (h:=h) (V:=V) (d:=12) (v:= .agg b) (t:= .agg c) (.inr (.inr ⟨b,c,rfl,a,rfl⟩));exact this
@[simp]def gW (d:H) (b:Nat->Prop) (c:Nat) (a:ak) (n:Int):FT d b (c+1) (.int a n) (.int a n):= .inl ⟨dy,dy,dy⟩
@[simp]def ko (d:H) (b:Nat->Prop) (c:Nat) (a:List Nat):FT d b (c+1) (.str a) (.str a):= .inl ⟨dy,dy,dy⟩
@[simp]def MG (d:H) (b:Nat->Prop) (c:Nat) (a:Bool):FT d b (c+1) (.bool a) (.bool a):= .inl ⟨dy,dy,dy⟩
theorem pF(g:H)(d:Nat->Prop)(e:Nat){a:List T}(c:∀b∈a,cn b=b):FT g d (e+1) (sl a) (sl a):=by
 refine .inl ⟨dy,by cases a<;>simp[sl],?_⟩;rw[Mc];congr 1;induction a with
 |nil=>rfl
 |cons b k h=>rw[aP,c b dy,<-h λi j=>c i (by grind)]
def jl(c:H)(a:Nat->Prop)(b:Nat)(f:Bool):FT c a (b+1) (.dK [] f) (sl []):= .inl ⟨dy,dy,by rw[nL];rfl⟩
section
variable {cx:Ctx}{cf:jd}{mask n:Nat}{dl:DL}
def fw(b e:Code)(c:Env)(d:H)(a:iS):CK (some (.bool true)) cx cf n mask dl b e c d a=W (jy cx cf n mask dl b c d) a:=rfl
def fc(e b:Code)(c:Env)(d:H)(a:iS):CK (some (.bool false)) cx cf n mask dl e b c d a=W (jy cx cf n mask dl b c d) a:=rfl
def ej{d:Bool}{e g:Code}{b:Env}{c:H}{a:iS}(h:d=true->W (jy cx cf n mask dl e b c) a)(i:d=false->W (jy cx cf n mask dl g b c) a):CK (some (.bool d)) cx cf n mask dl e g b c a:=by
 simp_all
end
def wR(P:ai)(cx:Ctx)(f:aj){α:Type}(A:α->List T)(pre:α->Prop)(Q:α->T->Prop):gG:=
 ⟨α,A,pre,λa=>Classical.epsilon λc=>(∀b,A b=A a->Q b c)/\lh P cx f (A a) c,λa b d=>by grind⟩
section
variable {P:ai}{cx:Ctx}{f:aj}{α:Type}{A:α->List T}{pre:α->Prop}{Q:α->T->Prop}
theorem Lj(e:∀a b,A a=A b->a=b){a:α}(g:∃c,Q a c/\lh P cx f (A a) c):Q a ((wR P cx f A pre Q).R a)/\lh P cx f (A a) ((wR P cx f A pre Q).R a):=by
 have d:∃c,(∀b,A b=A a->Q b c)/\lh P cx f (A a) c:=by
  grind
 have:=Classical.epsilon_spec d;exact⟨this.1 a rfl,this.2⟩
theorem ZE(d:∀a b,A a=A b->a=b)(g:∀a,pre a->∃c,Q a c/\lh P cx f (A a) c):(wR P cx f A pre Q).Ok P cx f:=λa e=>(Lj d (g a e)).2
def yL{tb:fJ}{c:Func}{mask:Nat}{dl:DL}(i:P.follows .mixedOrders=true)(jq:jg P cx)(l:EI P cx f c mask dl)(n:α->Nat)(o:∀a d,A a=A d->a=d)(hl:∀a,mp (A a)=true)(j:∀a,(A a).length<=c.ntmps)
 (k:∀a,pre a->∀g,mV g 0 (A a)->W (jy cx (qZ P cx tb) (n a) mask dl (c.body.getD .skip) ⟨g,.nil⟩ hE) (zu cx mask c.results.toList λm e=>∃b,Q a b/\Le e m b)):(wR P cx f A pre Q).Ok P cx f/\∀a,pre a->Q a ((wR P cx f A pre Q).R a):=by
 have e:∀a,pre a->∃b,Q a b/\lh P cx f (A a) b:=λa h=>V2 i jq l (Ep P cx tb) (hl a) (j a) (n a) (k a h)
 grind [Lj,ZE]
def nS(P:ai)(cx:Ctx)(f:aj)(A:α->List T)(pre:α->Prop)(Q:α->T->Prop):Prop:=(wR P cx f A pre Q).Ok P cx f/\∀a,pre a->Q a ((wR P cx f A pre Q).R a)
def Ch(d:α->Nat)(step:∀c,nS P cx f A (λa=>pre a/\d a<c) Q->nS P cx f A (λa=>pre a/\d a<c+1) Q):nS P cx f A pre Q:=by
 have e:∀c,nS P cx f A (λa=>pre a/\d a<c) Q:=by
  intro c;induction c with
  |zero=>exact⟨λa b=>absurd b.2 (Nat.not_lt_zero _),λa b=>absurd b.2 (Nat.not_lt_zero _)⟩
  |succ c g=>simp_all
 exact⟨λa b=>(e (d a+1)).1 a ⟨b,cX _⟩,λa b=>(e (d a+1)).2 a ⟨b,cX _⟩⟩
end
def NK(b:Prop)(c:T):Prop:=∃a,c= .bool a/\(a=true->b)
@[simp]def Y6 (b:Prop) (a:Bool):NK b (.bool a)=(a=true->b):=by
 unfold NK;apply propext;constructor
 ·simp
 ·simp
@[simp]def abU (a:Bool):FS (.bool a)=True:=by simp[FS]
end
end
end Go.TI
namespace Go.Proofs.YtajpdafdickapaaGreatDoor
noncomputable section
open Go Go.TI Tryz
def fZ(d:List (aj×gG)){b:gG}{g:aj}{c:Func}{e:Nat}{f:DL}(m:EI prog cx g c e f)(h:b.α->Nat)(hl:∀a,mp (b.A a)=true)
 (l:∀a,b.pre a->∀i,mV i 0 (b.A a)->W (jy cx (qZ prog cx ⟨pt d,ht []⟩) (h a) e f (c.body.getD .skip) ⟨i,.nil⟩ hE) (zu cx e c.results.toList λd j=>Le j d (b.R a)))
 (k:∀a,Nat.ble (b.A a).length c.ntmps=true:=by intro _;rfl):b.Ok prog cx g:=A6 (tb:=⟨pt d,ht []⟩) iR iE m h hl (λa=>bh (k a)) l
def jh(d:List (aj×gG)){e:Type}{b:e->List T}{l:e->Prop}{g:e->T->Prop}{j:aj}{c:Func}{f:Nat}{i:DL}(s:EI prog cx j c f i)(k:e->Nat)(p:∀a h,b a=b h->a=h)
 (r:∀a,l a->∀n,mV n 0 (b a)->W (jy cx (qZ prog cx ⟨pt d,ht []⟩) (k a) f i (c.body.getD .skip) ⟨n,.nil⟩ hE) (zu cx f c.results.toList λd o=>∃m,g a m/\Le o d m))
 (hl:∀a,mp (b a)=true:=by simp) (q:∀a,Nat.ble (b a).length c.ntmps=true:=by intro _;rfl):nS prog cx j b l g:=yL (tb:=⟨pt d,ht []⟩) iR iE s k p hl (λa=>bh (q a)) r
structure iq where
 name:List Nat
 index:Int
 size:Int
 uc:Bool
 jF:Int
 deriving DecidableEq,Inhabited
def iq.cs(a:iq):List T:=[.str a.name,Z a.index,Z a.size,.bool a.uc,Z a.jF]
def iq.t(a:iq):T:= .agg a.cs
@[simp]def iq.ag (a:iq):qP a.t [.str a.name,Z a.index,Z a.size,.bool a.uc,Z a.jF] 5:=by
 unfold iq.t iq.cs;exact⟨rfl,rfl,λ_ _=>rfl,rfl,by simp[jN],λ_=>by simp,λ_ _=>by simp,dy,dy⟩
@[simp]theorem iq.fold (a0:List Nat) (a1:Int) (a2:Int) (a3:Bool) (a4:Int):T.agg [.str a0,Z a1,Z a2,.bool a3,Z a4]=iq.t ⟨a0,a1,a2,a3,a4⟩:=rfl
@[simp]theorem iq.eta (a:iq):iq.mk a.name a.index a.size a.uc a.jF=a:=rfl
def iq.inj{a b:iq}(c:a.t=b.t):a=b:=by
 rcases a with⟨_,_,_,_,_⟩;rcases b with⟨_,_,_,_,_⟩;simp only[iq.t,iq.cs,T.agg.injEq,aL]at c;obtain⟨d,e,f,g,h,_⟩:=c;obtain rfl:=m8 d;obtain rfl:=io e;obtain rfl:=io f;obtain rfl:=pk g;obtain rfl:=io h;rfl
structure iI where
 name:List Nat
 rW:Bool
 deriving DecidableEq,Inhabited
def iI.cs(a:iI):List T:=[.str a.name,.bool a.rW]
def iI.t(a:iI):T:= .agg a.cs
@[simp]def iI.ag (a:iI):qP a.t [.str a.name,.bool a.rW] 2:=by
 unfold iI.t iI.cs;exact⟨rfl,rfl,λ_ _=>rfl,rfl,by simp[jN],λ_=>by simp,λ_ _=>by simp,dy,dy⟩
@[simp]theorem iI.fold (a0:List Nat) (a1:Bool):T.agg [.str a0,.bool a1]=iI.t ⟨a0,a1⟩:=rfl
@[simp]theorem iI.eta (a:iI):iI.mk a.name a.rW=a:=rfl
def iI.inj{a b:iI}(c:a.t=b.t):a=b:=by
 rcases a with⟨_,_⟩;rcases b with⟨_,_⟩;simp only[iI.t,iI.cs,T.agg.injEq,aL]at c;obtain⟨d,e,_⟩:=c;obtain rfl:=m8 d;obtain rfl:=pk e;rfl
structure ja where
 name:List Nat
 kv:Int
 deriving DecidableEq,Inhabited
def ja.cs(a:ja):List T:=[.str a.name,Z a.kv]
def ja.t(a:ja):T:= .agg a.cs
@[simp]def ja.ag (a:ja):qP a.t [.str a.name,Z a.kv] 2:=by
 unfold ja.t ja.cs;exact⟨rfl,rfl,λ_ _=>rfl,rfl,by simp[jN],λ_=>by simp,λ_ _=>by simp,dy,dy⟩
@[simp]theorem ja.fold (a0:List Nat) (a1:Int):T.agg [.str a0,Z a1]=ja.t ⟨a0,a1⟩:=rfl
@[simp]theorem ja.eta (a:ja):ja.mk a.name a.kv=a:=rfl
def ja.inj{a b:ja}(c:a.t=b.t):a=b:=by
 rcases a with⟨_,_⟩;rcases b with⟨_,_⟩;simp only[ja.t,ja.cs,T.agg.injEq,aL]at c;obtain⟨d,e,_⟩:=c;obtain rfl:=m8 d;obtain rfl:=io e;rfl
structure iK where
 dP:Int
 stmt:Int
 uX:Int
 deriving DecidableEq,Inhabited
def iK.cs(a:iK):List T:=[Z a.dP,Z a.stmt,Z a.uX]
def iK.t(a:iK):T:= .agg a.cs
@[simp]def iK.ag (a:iK):qP a.t [Z a.dP,Z a.stmt,Z a.uX] 3:=by
 unfold iK.t iK.cs;exact⟨rfl,rfl,λ_ _=>rfl,rfl,by simp[jN],λ_=>by simp,λ_ _=>by simp,dy,dy⟩
@[simp]theorem iK.fold (a0:Int) (a1:Int) (a2:Int):T.agg [Z a0,Z a1,Z a2]=iK.t ⟨a0,a1,a2⟩:=rfl
@[simp]theorem iK.eta (a:iK):iK.mk a.dP a.stmt a.uX=a:=rfl
def iK.inj{a b:iK}(c:a.t=b.t):a=b:=by
 rcases a with⟨_,_,_⟩;rcases b with⟨_,_,_⟩;simp only[iK.t,iK.cs,T.agg.injEq,aL]at c;obtain⟨d,e,f,_⟩:=c;obtain rfl:=io d;obtain rfl:=io e;obtain rfl:=io f;rfl
structure dY where
 cells:List iq
 ei:List iI
 gF:List ja
 ee:List (List Nat)
 dH:List (List Nat)
 iJ:List iK
 deriving DecidableEq,Inhabited
def dY.cs(a:dY):List T:=[sl (a.cells.map iq.t),sl (a.ei.map iI.t),sl (a.gF.map ja.t),sl (a.ee.map T.str),sl (a.dH.map T.str),sl (a.iJ.map iK.t)]
def dY.t(a:dY):T:= .agg a.cs
@[simp]def dY.ag (a:dY):qP a.t [sl (a.cells.map iq.t),sl (a.ei.map iI.t),sl (a.gF.map ja.t),sl (a.ee.map T.str),sl (a.dH.map T.str),sl (a.iJ.map iK.t)] 6:=by
 unfold dY.t dY.cs;exact⟨rfl,rfl,λ_ _=>rfl,rfl,by simp[jN],λ_=>by simp,λ_ _=>by simp,dy,dy⟩
@[simp]theorem dY.fold (a0:List iq) (a1:List iI) (a2:List ja) (a3:List (List Nat)) (a4:List (List Nat)) (a5:List iK):T.agg [sl (a0.map iq.t),sl (a1.map iI.t),sl (a2.map ja.t),sl (a3.map T.str),sl (a4.map T.str),sl (a5.map iK.t)]=dY.t ⟨a0,a1,a2,a3,a4,a5⟩:=rfl
@[simp]theorem dY.eta (a:dY):dY.mk a.cells a.ei a.gF a.ee a.dH a.iJ=a:=rfl
def dY.inj{a b:dY}(c:a.t=b.t):a=b:=by
 rcases a with⟨_,_,_,_,_,_⟩;rcases b with⟨_,_,_,_,_,_⟩;simp only[dY.t,dY.cs,T.agg.injEq,aL]at c;obtain⟨d,e,f,g,h,i,_⟩:=c;obtain rfl:=iz (λ_ _=>iq.inj) _ _ d;obtain rfl:=iz (λ_ _=>iI.inj) _ _ e;obtain rfl:=iz (λ_ _=>ja.inj) _ _ f;obtain rfl:=iz (λ_ _=>m8) _ _ g;obtain rfl:=iz (λ_ _=>m8) _ _ h;obtain rfl:=iz (λ_ _=>iK.inj) _ _ i;rfl
structure dR where
 iB:Int
 ew:List Int
 deriving DecidableEq,Inhabited
def dR.cs(a:dR):List T:=[Z a.iB,sl (a.ew.map (T.int .i64))]
def dR.t(a:dR):T:= .agg a.cs
@[simp]def dR.ag (a:dR):qP a.t [Z a.iB,sl (a.ew.map (T.int .i64))] 2:=by
 unfold dR.t dR.cs;exact⟨rfl,rfl,λ_ _=>rfl,rfl,by simp[jN],λ_=>by simp,λ_ _=>by simp,dy,dy⟩
@[simp]theorem dR.fold (a0:Int) (a1:List Int):T.agg [Z a0,sl (a1.map (T.int .i64))]=dR.t ⟨a0,a1⟩:=rfl
@[simp]theorem dR.eta (a:dR):dR.mk a.iB a.ew=a:=rfl
def dR.inj{a b:dR}(c:a.t=b.t):a=b:=by
 rcases a with⟨_,_⟩;rcases b with⟨_,_⟩;simp only[dR.t,dR.cs,T.agg.injEq,aL]at c;obtain⟨d,e,_⟩:=c;obtain rfl:=io d;obtain rfl:=iz (λ_ _=>io) _ _ e;rfl
structure dJ where
 ij:Int
 cond:Int
 atomic:Bool
 deriving DecidableEq,Inhabited
def dJ.cs(a:dJ):List T:=[Z a.ij,Z a.cond,.bool a.atomic]
def dJ.t(a:dJ):T:= .agg a.cs
@[simp]def dJ.ag (a:dJ):qP a.t [Z a.ij,Z a.cond,.bool a.atomic] 3:=by
 unfold dJ.t dJ.cs;exact⟨rfl,rfl,λ_ _=>rfl,rfl,by simp[jN],λ_=>by simp,λ_ _=>by simp,dy,dy⟩
@[simp]theorem dJ.fold (a0:Int) (a1:Int) (a2:Bool):T.agg [Z a0,Z a1,.bool a2]=dJ.t ⟨a0,a1,a2⟩:=rfl
@[simp]theorem dJ.eta (a:dJ):dJ.mk a.ij a.cond a.atomic=a:=rfl
def dJ.inj{a b:dJ}(c:a.t=b.t):a=b:=by
 rcases a with⟨_,_,_⟩;rcases b with⟨_,_,_⟩;simp only[dJ.t,dJ.cs,T.agg.injEq,aL]at c;obtain⟨d,e,f,_⟩:=c;obtain rfl:=io d;obtain rfl:=io e;obtain rfl:=pk f;rfl
structure fq where
 ei:List dR
 tx:Int
 done:List Bool
 dH:List dJ
 deriving DecidableEq,Inhabited
def fq.cs(a:fq):List T:=[sl (a.ei.map dR.t),Z a.tx,sl (a.done.map T.bool),sl (a.dH.map dJ.t)]
def fq.t(a:fq):T:= .agg a.cs
@[simp]def fq.ag (a:fq):qP a.t [sl (a.ei.map dR.t),Z a.tx,sl (a.done.map T.bool),sl (a.dH.map dJ.t)] 4:=by
 unfold fq.t fq.cs;exact⟨rfl,rfl,λ_ _=>rfl,rfl,by simp[jN],λ_=>by simp,λ_ _=>by simp,dy,dy⟩
@[simp]theorem fq.fold (a0:List dR) (a1:Int) (a2:List Bool) (a3:List dJ):T.agg [sl (a0.map dR.t),Z a1,sl (a2.map T.bool),sl (a3.map dJ.t)]=fq.t ⟨a0,a1,a2,a3⟩:=rfl
@[simp]theorem fq.eta (a:fq):fq.mk a.ei a.tx a.done a.dH=a:=rfl
def fq.inj{a b:fq}(c:a.t=b.t):a=b:=by
 rcases a with⟨_,_,_,_⟩;rcases b with⟨_,_,_,_⟩;simp only[fq.t,fq.cs,T.agg.injEq,aL]at c;obtain⟨d,e,f,g,_⟩:=c;obtain rfl:=iz (λ_ _=>dR.inj) _ _ d;obtain rfl:=io e;obtain rfl:=iz (λ_ _=>pk) _ _ f;obtain rfl:=iz (λ_ _=>dJ.inj) _ _ g;rfl
structure eQ where
 fj:fq
 cells:List Int
 ee:List Int
 count:List Int
 deriving DecidableEq,Inhabited
def eQ.cs(a:eQ):List T:=[sl (a.fj.ei.map dR.t),Z a.fj.tx,sl (a.fj.done.map T.bool),sl (a.fj.dH.map dJ.t),sl (a.cells.map (T.int .i64)),sl (a.ee.map (T.int .i64)),sl (a.count.map (T.int .i64))]
def eQ.t(a:eQ):T:= .agg a.cs
@[simp]def eQ.ag (a:eQ):qP a.t [sl (a.fj.ei.map dR.t),Z a.fj.tx,sl (a.fj.done.map T.bool),sl (a.fj.dH.map dJ.t),sl (a.cells.map (T.int .i64)),sl (a.ee.map (T.int .i64)),sl (a.count.map (T.int .i64))] 7:=by
 unfold eQ.t eQ.cs;exact⟨rfl,rfl,λ_ _=>rfl,rfl,by simp[jN],λ_=>by simp,λ_ _=>by simp,dy,dy⟩
@[simp]theorem eQ.fold (a0:List dR) (a1:Int) (a2:List Bool) (a3:List dJ) (a4:List Int) (a5:List Int) (a:List Int):T.agg [sl (a0.map dR.t),Z a1,sl (a2.map T.bool),sl (a3.map dJ.t),sl (a4.map (T.int .i64)),sl (a5.map (T.int .i64)),sl (a.map (T.int .i64))]=eQ.t ⟨⟨a0,a1,a2,a3⟩,a4,a5,a⟩:=rfl
@[simp]theorem eQ.eta (a:eQ):eQ.mk a.fj a.cells a.ee a.count=a:=rfl
def eQ.inj{a b:eQ}(c:a.t=b.t):a=b:=by
 rcases a with⟨⟨_,_,_,_⟩,_,_,_⟩;rcases b with⟨⟨_,_,_,_⟩,_,_,_⟩;simp only[eQ.t,eQ.cs,T.agg.injEq,aL]at c;obtain⟨d,e,f,g,h,i,j,_⟩:=c;obtain rfl:=iz (λ_ _=>dR.inj) _ _ d;obtain rfl:=io e;obtain rfl:=iz (λ_ _=>pk) _ _ f;obtain rfl:=iz (λ_ _=>dJ.inj) _ _ g;obtain rfl:=iz (λ_ _=>io) _ _ h;obtain rfl:=iz (λ_ _=>io) _ _ i;obtain rfl:=iz (λ_ _=>io) _ _ j;rfl
structure ez where
 dP:Int
 kind:Int
 obj:Int
 value:Int
 jk:Int
 mo:List Int
 uF:List Int
 deriving DecidableEq,Inhabited
def ez.cs(a:ez):List T:=[Z a.dP,Z a.kind,Z a.obj,Z a.value,Z a.jk,sl (a.mo.map (T.int .i64)),sl (a.uF.map (T.int .i64))]
def ez.t(a:ez):T:= .agg a.cs
@[simp]def ez.ag (a:ez):qP a.t [Z a.dP,Z a.kind,Z a.obj,Z a.value,Z a.jk,sl (a.mo.map (T.int .i64)),sl (a.uF.map (T.int .i64))] 7:=by
 unfold ez.t ez.cs;exact⟨rfl,rfl,λ_ _=>rfl,rfl,by simp[jN],λ_=>by simp,λ_ _=>by simp,dy,dy⟩
@[simp]theorem ez.fold (a0:Int) (a1:Int) (a2:Int) (a3:Int) (a4:Int) (a5:List Int) (a:List Int):T.agg [Z a0,Z a1,Z a2,Z a3,Z a4,sl (a5.map (T.int .i64)),sl (a.map (T.int .i64))]=ez.t ⟨a0,a1,a2,a3,a4,a5,a⟩:=rfl
@[simp]theorem ez.eta (a:ez):ez.mk a.dP a.kind a.obj a.value a.jk a.mo a.uF=a:=rfl
def ez.inj{a b:ez}(c:a.t=b.t):a=b:=by
 rcases a with⟨_,_,_,_,_,_,_⟩;rcases b with⟨_,_,_,_,_,_,_⟩;simp only[ez.t,ez.cs,T.agg.injEq,aL]at c;obtain⟨d,e,f,g,h,i,j,_⟩:=c;obtain rfl:=io d;obtain rfl:=io e;obtain rfl:=io f;obtain rfl:=io g;obtain rfl:=io h;obtain rfl:=iz (λ_ _=>io) _ _ i;obtain rfl:=iz (λ_ _=>io) _ _ j;rfl
structure dW where
 em:dY
 start:Int
 jF:eQ
 dL:List ez
 deriving DecidableEq,Inhabited
def dW.cs(a:dW):List T:=[sl (a.em.cells.map iq.t),sl (a.em.ei.map iI.t),sl (a.em.gF.map ja.t),sl (a.em.ee.map T.str),sl (a.em.dH.map T.str),sl (a.em.iJ.map iK.t),Z a.start,sl (a.jF.fj.ei.map dR.t),Z a.jF.fj.tx,sl (a.jF.fj.done.map T.bool),sl (a.jF.fj.dH.map dJ.t),sl (a.jF.cells.map (T.int .i64)),sl (a.jF.ee.map (T.int .i64)),sl (a.jF.count.map (T.int .i64)),sl (a.dL.map ez.t)]
def dW.t(a:dW):T:= .agg a.cs
@[simp]def dW.ag (a:dW):qP a.t [sl (a.em.cells.map iq.t),sl (a.em.ei.map iI.t),sl (a.em.gF.map ja.t),sl (a.em.ee.map T.str),sl (a.em.dH.map T.str),sl (a.em.iJ.map iK.t),Z a.start,sl (a.jF.fj.ei.map dR.t),Z a.jF.fj.tx,sl (a.jF.fj.done.map T.bool),sl (a.jF.fj.dH.map dJ.t),sl (a.jF.cells.map (T.int .i64)),sl (a.jF.ee.map (T.int .i64)),sl (a.jF.count.map (T.int .i64)),sl (a.dL.map ez.t)] 15:=by
 unfold dW.t dW.cs;exact⟨rfl,rfl,λ_ _=>rfl,rfl,by simp[jN],λ_=>by simp,λ_ _=>by simp,dy,dy⟩
@[simp]theorem dW.fold (a0:List iq) (a1:List iI) (a2:List ja) (a3:List (List Nat)) (a4:List (List Nat)) (a5:List iK) (f:Int) (g:List dR) (h:Int) (i:List Bool) (a:List dJ) (b:List Int) (c:List Int) (d:List Int) (e:List ez):T.agg [sl (a0.map iq.t),sl (a1.map iI.t),sl (a2.map ja.t),sl (a3.map T.str),sl (a4.map T.str),sl (a5.map iK.t),Z f,sl (g.map dR.t),Z h,sl (i.map T.bool),sl (a.map dJ.t),sl (b.map (T.int .i64)),sl (c.map (T.int .i64)),sl (d.map (T.int .i64)),sl (e.map ez.t)]=dW.t ⟨⟨a0,a1,a2,a3,a4,a5⟩,f,⟨⟨g,h,i,a⟩,b,c,d⟩,e⟩:=rfl
@[simp]theorem dW.eta (a:dW):dW.mk a.em a.start a.jF a.dL=a:=rfl
def dW.inj{a b:dW}(c:a.t=b.t):a=b:=by
 rcases a with⟨⟨_,_,_,_,_,_⟩,_,⟨⟨_,_,_,_⟩,_,_,_⟩,_⟩;rcases b with⟨⟨_,_,_,_,_,_⟩,_,⟨⟨_,_,_,_⟩,_,_,_⟩,_⟩;simp only[dW.t,dW.cs,T.agg.injEq,aL]at c;obtain⟨d,e,k,l,m,n,o,p,q,r,f,g,h,i,j,_⟩:=c;obtain rfl:=iz (λ_ _=>iq.inj) _ _ d;obtain rfl:=iz (λ_ _=>iI.inj) _ _ e;obtain rfl:=iz (λ_ _=>ja.inj) _ _ k;obtain rfl:=iz (λ_ _=>m8) _ _ l;obtain rfl:=iz (λ_ _=>m8) _ _ m;obtain rfl:=iz (λ_ _=>iK.inj) _ _ n;obtain rfl:=io o;obtain rfl:=iz (λ_ _=>dR.inj) _ _ p;obtain rfl:=io q;obtain rfl:=iz (λ_ _=>pk) _ _ r;obtain rfl:=iz (λ_ _=>dJ.inj) _ _ f;obtain rfl:=iz (λ_ _=>io) _ _ g;obtain rfl:=iz (λ_ _=>io) _ _ h;obtain rfl:=iz (λ_ _=>io) _ _ i;obtain rfl:=iz (λ_ _=>ez.inj) _ _ j;rfl
structure kG where
 kind:Int
 a:Int
 b:Int
 c:Int
 d:Int
 kF:List Int
 deriving DecidableEq,Inhabited
def kG.cs(e:kG):List T:=[Z e.kind,Z e.a,Z e.b,Z e.c,Z e.d,sl (e.kF.map (T.int .i64))]
def kG.t(a:kG):T:= .agg a.cs
@[simp]def kG.ag (e:kG):qP e.t [Z e.kind,Z e.a,Z e.b,Z e.c,Z e.d,sl (e.kF.map (T.int .i64))] 6:=by
 unfold kG.t kG.cs;exact⟨rfl,rfl,λ_ _=>rfl,rfl,by simp[jN],λ_=>by simp,λ_ _=>by simp,dy,dy⟩
@[simp]theorem kG.fold (a0:Int) (a1:Int) (a2:Int) (a3:Int) (a4:Int) (a5:List Int):T.agg [Z a0,Z a1,Z a2,Z a3,Z a4,sl (a5.map (T.int .i64))]=kG.t ⟨a0,a1,a2,a3,a4,a5⟩:=rfl
@[simp]theorem kG.eta (e:kG):kG.mk e.kind e.a e.b e.c e.d e.kF=e:=rfl
def kG.inj{a b:kG}(c:a.t=b.t):a=b:=by
 rcases a with⟨_,_,_,_,_,_⟩;rcases b with⟨_,_,_,_,_,_⟩;simp only[kG.t,kG.cs,T.agg.injEq,aL]at c;obtain⟨d,e,f,g,h,i,_⟩:=c;obtain rfl:=io d;obtain rfl:=io e;obtain rfl:=io f;obtain rfl:=io g;obtain rfl:=io h;obtain rfl:=iz (λ_ _=>io) _ _ i;rfl
structure km where
 em:dY
 dL:List ez
 deriving DecidableEq,Inhabited
def km.cs(a:km):List T:=[sl (a.em.cells.map iq.t),sl (a.em.ei.map iI.t),sl (a.em.gF.map ja.t),sl (a.em.ee.map T.str),sl (a.em.dH.map T.str),sl (a.em.iJ.map iK.t),sl (a.dL.map ez.t)]
def km.t(a:km):T:= .agg a.cs
@[simp]def km.ag (a:km):qP a.t [sl (a.em.cells.map iq.t),sl (a.em.ei.map iI.t),sl (a.em.gF.map ja.t),sl (a.em.ee.map T.str),sl (a.em.dH.map T.str),sl (a.em.iJ.map iK.t),sl (a.dL.map ez.t)] 7:=by
 unfold km.t km.cs;exact⟨rfl,rfl,λ_ _=>rfl,rfl,by simp[jN],λ_=>by simp,λ_ _=>by simp,dy,dy⟩
@[simp]theorem km.fold (a0:List iq) (a1:List iI) (a2:List ja) (a3:List (List Nat)) (a4:List (List Nat)) (a5:List iK) (a:List ez):T.agg [sl (a0.map iq.t),sl (a1.map iI.t),sl (a2.map ja.t),sl (a3.map T.str),sl (a4.map T.str),sl (a5.map iK.t),sl (a.map ez.t)]=km.t ⟨⟨a0,a1,a2,a3,a4,a5⟩,a⟩:=rfl
@[simp]theorem km.eta (a:km):km.mk a.em a.dL=a:=rfl
def km.inj{a b:km}(c:a.t=b.t):a=b:=by
 rcases a with⟨⟨_,_,_,_,_,_⟩,_⟩;rcases b with⟨⟨_,_,_,_,_,_⟩,_⟩;simp only[km.t,km.cs,T.agg.injEq,aL]at c;obtain⟨d,e,f,g,h,i,j,_⟩:=c;obtain rfl:=iz (λ_ _=>iq.inj) _ _ d;obtain rfl:=iz (λ_ _=>iI.inj) _ _ e;obtain rfl:=iz (λ_ _=>ja.inj) _ _ f;obtain rfl:=iz (λ_ _=>m8) _ _ g;obtain rfl:=iz (λ_ _=>m8) _ _ h;obtain rfl:=iz (λ_ _=>iK.inj) _ _ i;obtain rfl:=iz (λ_ _=>ez.inj) _ _ j;rfl
structure fU where
 w:dW
 CP:List fq
 deriving DecidableEq,Inhabited
def fU.cs(a:fU):List T:=[sl (a.w.em.cells.map iq.t),sl (a.w.em.ei.map iI.t),sl (a.w.em.gF.map ja.t),sl (a.w.em.ee.map T.str),sl (a.w.em.dH.map T.str),sl (a.w.em.iJ.map iK.t),Z a.w.start,sl (a.w.jF.fj.ei.map dR.t),Z a.w.jF.fj.tx,sl (a.w.jF.fj.done.map T.bool),sl (a.w.jF.fj.dH.map dJ.t),sl (a.w.jF.cells.map (T.int .i64)),sl (a.w.jF.ee.map (T.int .i64)),sl (a.w.jF.count.map (T.int .i64)),sl (a.w.dL.map ez.t),sl (a.CP.map fq.t)]
def fU.t(a:fU):T:= .agg a.cs
@[simp]def fU.ag (a:fU):qP a.t [sl (a.w.em.cells.map iq.t),sl (a.w.em.ei.map iI.t),sl (a.w.em.gF.map ja.t),sl (a.w.em.ee.map T.str),sl (a.w.em.dH.map T.str),sl (a.w.em.iJ.map iK.t),Z a.w.start,sl (a.w.jF.fj.ei.map dR.t),Z a.w.jF.fj.tx,sl (a.w.jF.fj.done.map T.bool),sl (a.w.jF.fj.dH.map dJ.t),sl (a.w.jF.cells.map (T.int .i64)),sl (a.w.jF.ee.map (T.int .i64)),sl (a.w.jF.count.map (T.int .i64)),sl (a.w.dL.map ez.t),sl (a.CP.map fq.t)] 16:=by
 unfold fU.t fU.cs;exact⟨rfl,rfl,λ_ _=>rfl,rfl,by simp[jN],λ_=>by simp,λ_ _=>by simp,dy,dy⟩
@[simp]theorem fU.fold (a0:List iq) (a1:List iI) (a2:List ja) (a3:List (List Nat)) (a4:List (List Nat)) (a5:List iK) (g:Int) (h:List dR) (i:Int) (j:List Bool) (a:List dJ) (b:List Int) (c:List Int) (d:List Int) (e:List ez) (f:List fq):T.agg [sl (a0.map iq.t),sl (a1.map iI.t),sl (a2.map ja.t),sl (a3.map T.str),sl (a4.map T.str),sl (a5.map iK.t),Z g,sl (h.map dR.t),Z i,sl (j.map T.bool),sl (a.map dJ.t),sl (b.map (T.int .i64)),sl (c.map (T.int .i64)),sl (d.map (T.int .i64)),sl (e.map ez.t),sl (f.map fq.t)]=fU.t ⟨⟨⟨a0,a1,a2,a3,a4,a5⟩,g,⟨⟨h,i,j,a⟩,b,c,d⟩,e⟩,f⟩:=rfl
@[simp]theorem fU.eta (a:fU):fU.mk a.w a.CP=a:=rfl
def fU.inj{a b:fU}(c:a.t=b.t):a=b:=by
 rcases a with⟨⟨⟨_,_,_,_,_,_⟩,_,⟨⟨_,_,_,_⟩,_,_,_⟩,_⟩,_⟩;rcases b with⟨⟨⟨_,_,_,_,_,_⟩,_,⟨⟨_,_,_,_⟩,_,_,_⟩,_⟩,_⟩;simp only[fU.t,fU.cs,T.agg.injEq,aL]at c;obtain⟨d,e,l,m,n,o,p,q,r,s,f,g,h,i,j,k,_⟩:=c;obtain rfl:=iz (λ_ _=>iq.inj) _ _ d;obtain rfl:=iz (λ_ _=>iI.inj) _ _ e;obtain rfl:=iz (λ_ _=>ja.inj) _ _ l;obtain rfl:=iz (λ_ _=>m8) _ _ m;obtain rfl:=iz (λ_ _=>m8) _ _ n;obtain rfl:=iz (λ_ _=>iK.inj) _ _ o;obtain rfl:=io p;obtain rfl:=iz (λ_ _=>dR.inj) _ _ q;obtain rfl:=io r;obtain rfl:=iz (λ_ _=>pk) _ _ s;obtain rfl:=iz (λ_ _=>dJ.inj) _ _ f;obtain rfl:=iz (λ_ _=>io) _ _ g;obtain rfl:=iz (λ_ _=>io) _ _ h;obtain rfl:=iz (λ_ _=>io) _ _ i;obtain rfl:=iz (λ_ _=>ez.inj) _ _ j;obtain rfl:=iz (λ_ _=>fq.inj) _ _ k;rfl
structure fR where
 op:Int
 a:Int
 b:Int
 c:Int
 n:Int
 jk:Int
 deriving DecidableEq,Inhabited
def fR.cs(d:fR):List T:=[Z d.op,Z d.a,Z d.b,Z d.c,Z d.n,Z d.jk]
def fR.t(a:fR):T:= .agg a.cs
@[simp]def fR.ag (d:fR):qP d.t [Z d.op,Z d.a,Z d.b,Z d.c,Z d.n,Z d.jk] 6:=by
 unfold fR.t fR.cs;exact⟨rfl,rfl,λ_ _=>rfl,rfl,by simp[jN],λ_=>by simp,λ_ _=>by simp,dy,dy⟩
@[simp]theorem fR.fold (a0:Int) (a1:Int) (a2:Int) (a3:Int) (a4:Int) (a5:Int):T.agg [Z a0,Z a1,Z a2,Z a3,Z a4,Z a5]=fR.t ⟨a0,a1,a2,a3,a4,a5⟩:=rfl
@[simp]theorem fR.eta (d:fR):fR.mk d.op d.a d.b d.c d.n d.jk=d:=rfl
def fR.inj{a b:fR}(c:a.t=b.t):a=b:=by
 rcases a with⟨_,_,_,_,_,_⟩;rcases b with⟨_,_,_,_,_,_⟩;simp only[fR.t,fR.cs,T.agg.injEq,aL]at c;obtain⟨d,e,f,g,h,i,_⟩:=c;obtain rfl:=io d;obtain rfl:=io e;obtain rfl:=io f;obtain rfl:=io g;obtain rfl:=io h;obtain rfl:=io i;rfl
structure gh where
 iZ:Int
 jm:List fR
 deriving DecidableEq,Inhabited
def gh.cs(a:gh):List T:=[Z a.iZ,sl (a.jm.map fR.t)]
def gh.t(a:gh):T:= .agg a.cs
@[simp]def gh.ag (a:gh):qP a.t [Z a.iZ,sl (a.jm.map fR.t)] 2:=by
 unfold gh.t gh.cs;exact⟨rfl,rfl,λ_ _=>rfl,rfl,by simp[jN],λ_=>by simp,λ_ _=>by simp,dy,dy⟩
@[simp]theorem gh.fold (a0:Int) (a1:List fR):T.agg [Z a0,sl (a1.map fR.t)]=gh.t ⟨a0,a1⟩:=rfl
@[simp]theorem gh.eta (a:gh):gh.mk a.iZ a.jm=a:=rfl
def gh.inj{a b:gh}(c:a.t=b.t):a=b:=by
 rcases a with⟨_,_⟩;rcases b with⟨_,_⟩;simp only[gh.t,gh.cs,T.agg.injEq,aL]at c;obtain⟨d,e,_⟩:=c;obtain rfl:=io d;obtain rfl:=iz (λ_ _=>fR.inj) _ _ e;rfl
structure jR where
 em:dY
 dH:List gh
 deriving DecidableEq,Inhabited
def jR.cs(a:jR):List T:=[sl (a.em.cells.map iq.t),sl (a.em.ei.map iI.t),sl (a.em.gF.map ja.t),sl (a.em.ee.map T.str),sl (a.em.dH.map T.str),sl (a.em.iJ.map iK.t),sl (a.dH.map gh.t)]
def jR.t(a:jR):T:= .agg a.cs
@[simp]def jR.ag (a:jR):qP a.t [sl (a.em.cells.map iq.t),sl (a.em.ei.map iI.t),sl (a.em.gF.map ja.t),sl (a.em.ee.map T.str),sl (a.em.dH.map T.str),sl (a.em.iJ.map iK.t),sl (a.dH.map gh.t)] 7:=by
 unfold jR.t jR.cs;exact⟨rfl,rfl,λ_ _=>rfl,rfl,by simp[jN],λ_=>by simp,λ_ _=>by simp,dy,dy⟩
@[simp]theorem jR.fold (a0:List iq) (a1:List iI) (a2:List ja) (a3:List (List Nat)) (a4:List (List Nat)) (a5:List iK) (a:List gh):T.agg [sl (a0.map iq.t),sl (a1.map iI.t),sl (a2.map ja.t),sl (a3.map T.str),sl (a4.map T.str),sl (a5.map iK.t),sl (a.map gh.t)]=jR.t ⟨⟨a0,a1,a2,a3,a4,a5⟩,a⟩:=rfl
@[simp]theorem jR.eta (a:jR):jR.mk a.em a.dH=a:=rfl
def jR.inj{a b:jR}(c:a.t=b.t):a=b:=by
 rcases a with⟨⟨_,_,_,_,_,_⟩,_⟩;rcases b with⟨⟨_,_,_,_,_,_⟩,_⟩;simp only[jR.t,jR.cs,T.agg.injEq,aL]at c;obtain⟨d,e,f,g,h,i,j,_⟩:=c;obtain rfl:=iz (λ_ _=>iq.inj) _ _ d;obtain rfl:=iz (λ_ _=>iI.inj) _ _ e;obtain rfl:=iz (λ_ _=>ja.inj) _ _ f;obtain rfl:=iz (λ_ _=>m8) _ _ g;obtain rfl:=iz (λ_ _=>m8) _ _ h;obtain rfl:=iz (λ_ _=>iK.inj) _ _ i;obtain rfl:=iz (λ_ _=>gh.inj) _ _ j;rfl
structure eJ where
 pC:Int
 iZ:List Int
 kf:List (List Int)
 dL:Int
 deriving DecidableEq,Inhabited
def eJ.cs(a:eJ):List T:=[Z a.pC,sl (a.iZ.map (T.int .i64)),sl (a.kf.map (λb=>sl (b.map (T.int .i64)))),Z a.dL]
def eJ.t(a:eJ):T:= .agg a.cs
@[simp]def eJ.ag (a:eJ):qP a.t [Z a.pC,sl (a.iZ.map (T.int .i64)),sl (a.kf.map (λb=>sl (b.map (T.int .i64)))),Z a.dL] 4:=by
 unfold eJ.t eJ.cs;exact⟨rfl,rfl,λ_ _=>rfl,rfl,by simp[jN],λ_=>by simp,λ_ _=>by simp,dy,dy⟩
@[simp]theorem eJ.fold (a0:Int) (a1:List Int) (a2:List (List Int)) (a3:Int):T.agg [Z a0,sl (a1.map (T.int .i64)),sl (a2.map (λa=>sl (a.map (T.int .i64)))),Z a3]=eJ.t ⟨a0,a1,a2,a3⟩:=rfl
@[simp]theorem eJ.eta (a:eJ):eJ.mk a.pC a.iZ a.kf a.dL=a:=rfl
def eJ.inj{a b:eJ}(c:a.t=b.t):a=b:=by
 rcases a with⟨_,_,_,_⟩;rcases b with⟨_,_,_,_⟩;simp only[eJ.t,eJ.cs,T.agg.injEq,aL]at c;obtain⟨d,e,f,g,_⟩:=c;obtain rfl:=io d;obtain rfl:=iz (λ_ _=>io) _ _ e;obtain rfl:=iz (iz (λ_ _=>io)) _ _ f;obtain rfl:=io g;rfl
structure iQ where
 fj:fq
 cells:List Int
 ee:List Int
 dH:List eJ
 deriving DecidableEq,Inhabited
def iQ.cs(a:iQ):List T:=[sl (a.fj.ei.map dR.t),Z a.fj.tx,sl (a.fj.done.map T.bool),sl (a.fj.dH.map dJ.t),sl (a.cells.map (T.int .i64)),sl (a.ee.map (T.int .i64)),sl (a.dH.map eJ.t)]
def iQ.t(a:iQ):T:= .agg a.cs
@[simp]def iQ.ag (a:iQ):qP a.t [sl (a.fj.ei.map dR.t),Z a.fj.tx,sl (a.fj.done.map T.bool),sl (a.fj.dH.map dJ.t),sl (a.cells.map (T.int .i64)),sl (a.ee.map (T.int .i64)),sl (a.dH.map eJ.t)] 7:=by
 unfold iQ.t iQ.cs;exact⟨rfl,rfl,λ_ _=>rfl,rfl,by simp[jN],λ_=>by simp,λ_ _=>by simp,dy,dy⟩
@[simp]theorem iQ.fold (a0:List dR) (a1:Int) (a2:List Bool) (a3:List dJ) (a4:List Int) (a5:List Int) (a:List eJ):T.agg [sl (a0.map dR.t),Z a1,sl (a2.map T.bool),sl (a3.map dJ.t),sl (a4.map (T.int .i64)),sl (a5.map (T.int .i64)),sl (a.map eJ.t)]=iQ.t ⟨⟨a0,a1,a2,a3⟩,a4,a5,a⟩:=rfl
@[simp]theorem iQ.eta (a:iQ):iQ.mk a.fj a.cells a.ee a.dH=a:=rfl
def iQ.inj{a b:iQ}(c:a.t=b.t):a=b:=by
 rcases a with⟨⟨_,_,_,_⟩,_,_,_⟩;rcases b with⟨⟨_,_,_,_⟩,_,_,_⟩;simp only[iQ.t,iQ.cs,T.agg.injEq,aL]at c;obtain⟨d,e,f,g,h,i,j,_⟩:=c;obtain rfl:=iz (λ_ _=>dR.inj) _ _ d;obtain rfl:=io e;obtain rfl:=iz (λ_ _=>pk) _ _ f;obtain rfl:=iz (λ_ _=>dJ.inj) _ _ g;obtain rfl:=iz (λ_ _=>io) _ _ h;obtain rfl:=iz (λ_ _=>io) _ _ i;obtain rfl:=iz (λ_ _=>eJ.inj) _ _ j;rfl
structure fX where
 dP:Int
 vQ:Int
 deriving DecidableEq,Inhabited
def fX.cs(a:fX):List T:=[Z a.dP,Z a.vQ]
def fX.t(a:fX):T:= .agg a.cs
@[simp]def fX.ag (a:fX):qP a.t [Z a.dP,Z a.vQ] 2:=by
 unfold fX.t fX.cs;exact⟨rfl,rfl,λ_ _=>rfl,rfl,by simp[jN],λ_=>by simp,λ_ _=>by simp,dy,dy⟩
@[simp]theorem fX.fold (a0:Int) (a1:Int):T.agg [Z a0,Z a1]=fX.t ⟨a0,a1⟩:=rfl
@[simp]theorem fX.eta (a:fX):fX.mk a.dP a.vQ=a:=rfl
def fX.inj{a b:fX}(c:a.t=b.t):a=b:=by
 rcases a with⟨_,_⟩;rcases b with⟨_,_⟩;simp only[fX.t,fX.cs,T.agg.injEq,aL]at c;obtain⟨d,e,_⟩:=c;obtain rfl:=io d;obtain rfl:=io e;rfl
structure iA where
 kind:Int
 uX:Int
 name:List Nat
 size:Int
 jF:Int
 on:List Nat
 deriving DecidableEq,Inhabited
def iA.cs(a:iA):List T:=[Z a.kind,Z a.uX,.str a.name,Z a.size,Z a.jF,.str a.on]
def iA.t(a:iA):T:= .agg a.cs
@[simp]def iA.ag (a:iA):qP a.t [Z a.kind,Z a.uX,.str a.name,Z a.size,Z a.jF,.str a.on] 6:=by
 unfold iA.t iA.cs;exact⟨rfl,rfl,λ_ _=>rfl,rfl,by simp[jN],λ_=>by simp,λ_ _=>by simp,dy,dy⟩
@[simp]theorem iA.fold (a0:Int) (a1:Int) (a2:List Nat) (a3:Int) (a4:Int) (a5:List Nat):T.agg [Z a0,Z a1,.str a2,Z a3,Z a4,.str a5]=iA.t ⟨a0,a1,a2,a3,a4,a5⟩:=rfl
@[simp]theorem iA.eta (a:iA):iA.mk a.kind a.uX a.name a.size a.jF a.on=a:=rfl
def iA.inj{a b:iA}(c:a.t=b.t):a=b:=by
 rcases a with⟨_,_,_,_,_,_⟩;rcases b with⟨_,_,_,_,_,_⟩;simp only[iA.t,iA.cs,T.agg.injEq,aL]at c;obtain⟨d,e,f,g,h,i,_⟩:=c;obtain rfl:=io d;obtain rfl:=io e;obtain rfl:=m8 f;obtain rfl:=io g;obtain rfl:=io h;obtain rfl:=m8 i;rfl
structure gu where
 value:Int
 known:Bool
 deriving DecidableEq,Inhabited
def gu.cs(a:gu):List T:=[Z a.value,.bool a.known]
def gu.t(a:gu):T:= .agg a.cs
@[simp]def gu.ag (a:gu):qP a.t [Z a.value,.bool a.known] 2:=by
 unfold gu.t gu.cs;exact⟨rfl,rfl,λ_ _=>rfl,rfl,by simp[jN],λ_=>by simp,λ_ _=>by simp,dy,dy⟩
@[simp]theorem gu.fold (a0:Int) (a1:Bool):T.agg [Z a0,.bool a1]=gu.t ⟨a0,a1⟩:=rfl
@[simp]theorem gu.eta (a:gu):gu.mk a.value a.known=a:=rfl
def gu.inj{a b:gu}(c:a.t=b.t):a=b:=by
 rcases a with⟨_,_⟩;rcases b with⟨_,_⟩;simp only[gu.t,gu.cs,T.agg.injEq,aL]at c;obtain⟨d,e,_⟩:=c;obtain rfl:=io d;obtain rfl:=pk e;rfl
structure eK where
 fj:fq
 cells:List gu
 ee:List gu
 order:List Int
 fixed:List Bool
 qQ:List Int
 deriving DecidableEq,Inhabited
def eK.cs(a:eK):List T:=[sl (a.fj.ei.map dR.t),Z a.fj.tx,sl (a.fj.done.map T.bool),sl (a.fj.dH.map dJ.t),sl (a.cells.map gu.t),sl (a.ee.map gu.t),sl (a.order.map (T.int .i64)),sl (a.fixed.map T.bool),sl (a.qQ.map (T.int .i64))]
def eK.t(a:eK):T:= .agg a.cs
@[simp]def eK.ag (a:eK):qP a.t [sl (a.fj.ei.map dR.t),Z a.fj.tx,sl (a.fj.done.map T.bool),sl (a.fj.dH.map dJ.t),sl (a.cells.map gu.t),sl (a.ee.map gu.t),sl (a.order.map (T.int .i64)),sl (a.fixed.map T.bool),sl (a.qQ.map (T.int .i64))] 9:=by
 unfold eK.t eK.cs;exact⟨rfl,rfl,λ_ _=>rfl,rfl,by simp[jN],λ_=>by simp,λ_ _=>by simp,dy,dy⟩
@[simp]theorem eK.fold (a0:List dR) (a1:Int) (a2:List Bool) (a3:List dJ) (a4:List gu) (a5:List gu) (a:List Int) (b:List Bool) (c:List Int):T.agg [sl (a0.map dR.t),Z a1,sl (a2.map T.bool),sl (a3.map dJ.t),sl (a4.map gu.t),sl (a5.map gu.t),sl (a.map (T.int .i64)),sl (b.map T.bool),sl (c.map (T.int .i64))]=eK.t ⟨⟨a0,a1,a2,a3⟩,a4,a5,a,b,c⟩:=rfl
@[simp]theorem eK.eta (a:eK):eK.mk a.fj a.cells a.ee a.order a.fixed a.qQ=a:=rfl
def eK.inj{a b:eK}(c:a.t=b.t):a=b:=by
 rcases a with⟨⟨_,_,_,_⟩,_,_,_,_,_⟩;rcases b with⟨⟨_,_,_,_⟩,_,_,_,_,_⟩;simp only[eK.t,eK.cs,T.agg.injEq,aL]at c;obtain⟨d,e,f,g,h,i,j,k,l,_⟩:=c;obtain rfl:=iz (λ_ _=>dR.inj) _ _ d;obtain rfl:=io e;obtain rfl:=iz (λ_ _=>pk) _ _ f;obtain rfl:=iz (λ_ _=>dJ.inj) _ _ g;obtain rfl:=iz (λ_ _=>gu.inj) _ _ h;obtain rfl:=iz (λ_ _=>gu.inj) _ _ i;obtain rfl:=iz (λ_ _=>io) _ _ j;obtain rfl:=iz (λ_ _=>pk) _ _ k;obtain rfl:=iz (λ_ _=>io) _ _ l;rfl
def iN(a:Int)(b:Nat):Bool:=decide (0<=a/\a<b)
def rf{b:Type}(c:List b)(a:Int):aa b:=if 0<=a then c[a.toNat]? else none
def eZ{a:Int}{b:Nat}:iN a b=true↔0<=a/\a.toNat<b:=by unfold iN;simp;omega
def pQ{a:Int}{c:Nat}(b:iN a c=false):¬(0<=a/\a.toNat<c):=λd=>by rw[eZ.2 d]at b;simp at b
def iD{e:Type}{l:List e}{i:Int}(c:iN i l.length=true):∃b,l[i.toNat]? =some b/\rf l i=some b:=by
 have⟨d,a⟩:=eZ.1 c;exact⟨l[i.toNat],by simp[a],by simp[rf,d,a]⟩
def nM{d:Type}{b:List d}{a:Int}(c:iN a b.length=false):rf b a=none:=by
 have:=pQ c;unfold rf;split
 ·simp;omega
 ·rfl
def kZ(a:dY)(b:fq):Bool:=(a.gF.all λc=>iN c.kv a.ei.length)&&decide (b.ei.length=a.ei.length)&&decide (b.done.length=a.ee.length)&&decide (b.dH.length=a.dH.length)
def jE(c:dY)(a b:Int):Bool:=
 if a=1\/a=2\/a=5\/a=12\/a=13\/a=14\/a=15 then decide (b=-1)
 else if a=3\/a=4 then iN b c.cells.length
 else if a=6\/a=7 then(match rf c.ei b with|some d=> !d.rW|none=>false)
 else if a=8\/a=9\/a=10\/a=11 then(match rf c.ei b with|some d=>d.rW|none=>false)
 else if a=16\/a=17\/a=18\/a=19 then iN b c.gF.length
 else if a=20\/a=21 then iN b c.dH.length
 else if a=22\/a=23 then iN b c.ee.length
 else false
def iw(a:Int):List dJ->Nat->List Int
 | [],_=>[]
 |t::c,b=>if t.ij=3/\t.cond=a then(b:Int)::iw a c (b+1)else iw a c (b+1)
def j1(b:fq)(a:Int):dR:=(rf b.ei a).getD default
def jS(b:fq)(a:Int):dJ:=(rf b.dH a).getD default
def pj(c:dY)(b:fq)(a:Int):dR:=j1 b ((rf c.gF a).getD default).kv
def Ek(b:fq)(a:Int):Bool:=(rf b.done a).getD false
def vJ(e:dY)(a:fq)(d b c:Int):Bool:=
 if b=1 then decide ((jS a d).ij=1)
 else if b=17 then decide ((jS a d).ij=4)&&decide ((jS a d).cond=c)&&decide ((pj e a c).iB=-1)
 else if¬(jS a d).ij=2 then false
 else if b=6 then decide ((j1 a c).iB=-1)
 else if b=10 then decide ((j1 a c).iB=-1)&&decide ((j1 a c).ew=[])
 else if b=8 then decide ((j1 a c).iB=-1)&& !decide (d∈(j1 a c).ew)
 else if b=7\/b=11 then decide ((j1 a c).iB=d)
 else if b=9 then decide (d∈(j1 a c).ew)
 else if b=12 then decide (a.tx=-1)
 else if b=13 then decide (a.tx=d)
 else if b=14 then !(jS a d).atomic
 else if b=15 then(jS a d).atomic
 else if b=16\/b=18\/b=19 then decide ((pj e a c).iB=d)
 else if b=20 then !decide (c=d)&&decide ((jS a c).ij=0)
 else if b=21 then !decide (c=d)&&decide ((jS a c).ij=5)
 else if b=22 then !Ek a c
 else if b=23 then Ek a c
 else true
def iG(a:dY)(d:fq)(e b c:Int):Bool:=kZ a d&&iN e a.dH.length&&jE a b c&&vJ a d e b c
def kr{c:dY}{b:fq}(a:kZ c b=true):b.ei.length=c.ei.length/\b.done.length=c.ee.length/\b.dH.length=c.dH.length:=by
 unfold kZ at a;simp at a;exact⟨a.1.1.2,a.1.2,a.2⟩
def pV{c:dY}{f:fq}(b:kZ c f=true){e:Nat}{a:ja}(d:c.gF[e]? =some a):iN a.kv c.ei.length=true:=by
 unfold kZ at b;simp at b;exact b.1.1.1 a (ay d)
def pO{d:dY}{a c:Int}(b:jE d a c=true):a=1\/a=2\/a=3\/a=4\/a=5\/a=12\/a=13\/a=14\/a=15\/(a=6\/a=7\/a=8\/a=9\/a=10\/a=11)\/(a=16\/a=17\/a=18\/a=19)\/(a=20\/a=21)\/(a=22\/a=23):=by
 by_cases e:1<=a/\a<=23
 ·omega
 ·exfalso;unfold jE at b;rw[aq J,aq J,aq J,aq J,aq J,aq J,aq J]at b;simp at b
def jY{d:dY}{a c:Int}(b:jE d a c=true)(e:a=6\/a=7\/a=8\/a=9\/a=10\/a=11):iN c d.ei.length=true:=by
 cases hl:iN c d.ei.length with
 |true=>rfl
 |false=>
  unfold jE at b;rw[aq J,aq J]at b;rcases e with rfl|rfl|rfl|rfl|rfl|rfl<;>simp[nM hl]at b
def my{d:dY}{a c:Int}(b:jE d a c=true)(e:a=16\/a=17\/a=18\/a=19):iN c d.gF.length=true:=by
 unfold jE at b;rwa[aq J,aq J,aq J,aq J,ar e]at b
def pN{d:dY}{a c:Int}(b:jE d a c=true)(e:a=20\/a=21):iN c d.dH.length=true:=by
 unfold jE at b;rwa[aq J,aq J,aq J,aq J,aq J,ar e]at b
def rO{d:dY}{a c:Int}(b:jE d a c=true)(e:a=22\/a=23):iN c d.ee.length=true:=by
 unfold jE at b;rwa[aq J,aq J,aq J,aq J,aq J,aq J,ar e]at b
def fq.sm(a:fq):Prop:=a.ei.length<=1099511627776/\a.done.length<=1099511627776/\a.dH.length<=1099511627776/\∀b∈a.ei,b.ew.length<=1000000000000
def fq.nT(a:fq)(i:Int)(b:dJ->dJ):fq:={a with dH:=a.dH.modify i.toNat b}
def fq.pw(a:fq)(c:Int)(b:dR->dR):fq:={a with ei:=a.ei.modify c.toNat b}
def ka(a:Int)(b:dJ):dJ:={b with ij:=a}
def lK:List Int->Int->List Int
 | [],a=>[a]
 |x::b,a=>if x<a then x::lK b a else if x=a then x::b else a::x::b
def vq(a c:Int)(b:List dJ):Int:=if c∈iw a b 0 then c else(iw a b 0).headD (-1)
def eY(g:dY)(a:fq)(f b c h:Int):fq×Int:=
 if b=1 then(a.nT f (ka 2),0)
 else if b=2 then(a.nT f (ka 5),0)
 else if b=6\/b=10 then(a.pw c λd=>{d with iB:=f},0)
 else if b=7\/b=11 then(a.pw c λd=>{d with iB:=-1},0)
 else if b=8 then(a.pw c λd=>{d with ew:=lK d.ew f},0)
 else if b=9 then(a.pw c λd=>{d with ew:=d.ew.filter λi=> !decide (i=f)},0)
 else if b=12 then({a with tx:=f},0)
 else if b=13 then({a with tx:=-1},0)
 else if b=14 then(a.nT f λe=>{e with atomic:=true},0)
 else if b=15 then(a.nT f λe=>{e with atomic:=false},0)
 else if b=16 then((a.pw ((rf g.gF c).getD default).kv λd=>{d with iB:=-1}).nT f λe=>{e with ij:=3,cond:=c},0)
 else if b=17 then((a.pw ((rf g.gF c).getD default).kv λd=>{d with iB:=f}).nT f λe=>{e with ij:=2,cond:=0},0)
 else if b=18 then(if iw c a.dH 0=[]then(a,-1)else(a.nT (vq c h a.dH) (ka 4),vq c h a.dH))
 else if b=19 then({a with dH:=a.dH.map λe=>if e.ij=3/\e.cond=c then ka 4 e else e},(iw c a.dH 0).length)
 else if b=20 then(a.nT c (ka 1),0)
 else if b=22 then({a with done:=a.done.set c.toNat true},0)
 else(a,0)
def Jt(a:List Int):Prop:=a.Pairwise (· < ·)
def fq.BB(b:fq):Prop:=∀a∈b.ei,Jt a.ew
def DI{a:List Int}{c b:Int}(h:b∈lK a c):b∈a\/b=c:=by
 induction a with
 |nil=>simp[lK]at h;exact .inr h
 |cons e a d=>
  unfold lK at h;split at h
  ·rcases List.mem_cons.1 h with rfl|h
   ·exact .inl dy
   ·rcases d h with h|h
    ·exact .inl (by simp[h])
    ·exact .inr h
  ·split at h
   ·exact .inl h
   ·rcases List.mem_cons.1 h with rfl|h
    ·exact .inr rfl
    ·exact .inl h
def DM{b:List Int}(a:Jt b)(e:Int):Jt (lK b e):=by
 induction b with
 |nil=>simp[lK,Jt]
 |cons f b d=>
  unfold Jt at*
  rw[dj]at a;unfold lK;split
  ·rw[dj];refine⟨λc hx=>?_,d a.2⟩;rcases DI hx with hx|rfl
   ·exact a.1 c hx
   ·assumption
  ·split
   ·rw[dj];exact a
   ·rw[dj,dj];refine⟨λc hx=>?_,a⟩;rcases List.mem_cons.1 hx with rfl|hx
    ·omega
    ·have:=a.1 c hx;omega
def DJ(a:List Int)(b:Int):(lK a b).length<=a.length+1:=by
 induction a with
 |nil=>simp[lK]
 |cons d a c=>unfold lK;split<;>(try split)<;>simp<;>omega
def mem_modify{c:Type}{b:List c}{i:Nat}{g:c->c}{e:c}(h:e∈b.modify i g):e∈b\/∃f∈b,e=g f:=by
 have⟨j,a⟩:=List.mem_iff_getElem?.1 h;rw[cY]at a;split at a
 ·cases d:b[j]? with
  |none=>rw[d]at a;simp at a
  |some f=>rw[d]at a;simp at a;exact .inr ⟨f,ay d,a.symm⟩
 ·exact .inl (ay (by simpa using a))
def TA{b:fq}(d:b.BB){h:Int}{c:dR->dR}(f:∀a∈b.ei,Jt (c a).ew):(b.pw h c).BB:=by
 intro a hl;rcases mem_modify hl with e|⟨i,g,rfl⟩
 ·exact d a e
 ·exact f i g
def qF{e:Type}(b:e->Prop){a:Prop} [Decidable a]{c d:e}(f:a->b c)(g:¬a->b d):b (if a then c else d):=by
 split
 ·exact f (by assumption)
 ·exact g (by assumption)
def vl{P:fq×Int->Prop}{p:dY}{b:fq}{e m g q:Int}(p0:P (b,0))(p1:P (b,-1))(pt:∀h c d,P (b.nT h c,d))(f:∀h c,(∀a,(c a).ew=a.ew\/(c a).ew=lK a.ew e\/(c a).ew=a.ew.filter λi=> !decide (i=e))->P (b.pw h c,0)/\∀l k,P ((b.pw h c).nT l k,0))
 (j:∀d,P ({b with tx:=d},0)) (o:∀c d,P ({b with dH:=b.dH.map c},d)) (n:∀d,P ({b with done:=b.done.set d true},0)):P (eY p b e m g q):=by
 unfold eY;refine qF P (λ_=>pt _ _ _) λ_=>?_;refine qF P (λ_=>pt _ _ _) λ_=>?_;refine qF P (λ_=>(f g (λa=>{a with iB:=e}) λ_=> .inl rfl).1) λ_=>?_;refine qF P (λ_=>(f g (λa=>{a with iB:=-1}) λ_=> .inl rfl).1) λ_=>?_;refine qF P (λ_=>(f g (λa=>{a with ew:=lK a.ew e}) λ_=> .inr (.inl rfl)).1) λ_=>?_;refine qF P (λ_=>(f g (λa=>{a with ew:=a.ew.filter λi=> !decide (i=e)}) λ_=> .inr (.inr rfl)).1) λ_=>?_;refine qF P (λ_=>j _) λ_=>?_;refine qF P (λ_=>j _) λ_=>?_;refine qF P (λ_=>pt _ _ _) λ_=>?_;refine qF P (λ_=>pt _ _ _) λ_=>?_;refine qF P (λ_=>(f _ (λa=>{a with iB:=-1}) λ_=> .inl rfl).2 _ _) λ_=>?_;refine qF P (λ_=>(f _ (λa=>{a with iB:=e}) λ_=> .inl rfl).2 _ _) λ_=>?_;refine qF P (λ_=>qF P (λ_=>p1) λ_=>pt _ _ _) λ_=>?_;refine qF P (λ_=>o _ _) λ_=>?_;refine qF P (λ_=>pt _ _ _) λ_=>?_;exact qF P (λ_=>n _) λ_=>p0
def vk{i:fq}(b:i.BB)(m:dY)(g k l n:Int):(eY m i g k l n).1.BB:=by
 have j:∀(d:Int) (c:dR->dR),(∀a,(c a).ew=a.ew\/(c a).ew=lK a.ew g\/(c a).ew=a.ew.filter λh=> !decide (h=g))->(i.pw d c).BB:=λd c f=>TA b λa hl=>by
  rcases f a with e|e|e<;>rw[e]
  ·exact b a hl
  ·exact DM (b a hl) g
  ·exact(b a hl).filter _
 exact vl (P:=λh=>h.1.BB) b b (λ_ _ _=>b) (λd c f=>⟨j d c f,λ_ _=>j d c f⟩) (λ_=>b) (λ_ _=>b) (λ_=>b)
def vj(f:dY)(a:fq)(e b c g:Int):(eY f a e b c g).1.ei.length=a.ei.length/\(eY f a e b c g).1.done.length=a.done.length/\(eY f a e b c g).1.dH.length=a.dH.length:=
 vl (P:=λd=>d.1.ei.length=a.ei.length/\d.1.done.length=a.done.length/\d.1.dH.length=a.dH.length) ⟨rfl,rfl,rfl⟩ ⟨rfl,rfl,rfl⟩ (λ_ _ _=>by simp[fq.nT]) (λ_ _ _=>by simp[fq.nT,fq.pw]) (λ_=>⟨rfl,rfl,rfl⟩) (λ_ _=>by simp) (λ_=>by simp)
def NM{a:List Int}{b:Int}(d:∀c∈a,c<b):lK a b=a++[b]:=by
 induction a with
 |nil=>rfl
 |cons g a f=>unfold lK;rw[ar (d g dy),f λc e=>d c (by simp[e])];rfl
def NN:∀(b a:List Int),Jt (a++b)->b.foldl lK a=a++b:=by
 intro b;induction b with
 |nil=>intro a _;simp
 |cons c b h=>
  intro a e;have f:∀d∈a,d<c:=λd g=>(List.pairwise_append.1 e).2.2 d g c dy;rw[List.foldl_cons,NM f,h (a++[c]) (by simpa using e)];simp
def MM{a:List Int}(c:Jt a)(b:Int): [b].foldl lK (a.foldl lK [])=lK a b:=by
 rw[NN a [] (by simpa using c)];rfl
def mB(b:dY)(a:eQ):Bool:=kZ b a.fj&&decide (a.cells.length=b.cells.length)&&decide (a.ee.length=b.ee.length)&&decide (a.count.length=b.dH.length)
def yp(b:Int):aa Int->List Int->Bool
 |_,[]=>true
 |p,a::c=> !(decide (a<1))&& !(decide (b<=a))&&(match p with|some d=> !(decide (a<=d))|none=>true)&&yp b (some a) c
def ot(b:eQ)(a:ez):Bool:=
 if a.kind=3 then(match rf b.cells a.obj with|some c=>decide (a.value=c)|none=>false)
 else if a.kind=23 then(match rf b.ee a.obj with|some c=>decide (a.value=c)|none=>false)
 else if a.kind=5 then decide (a.value=0)||decide (a.value=1)
 else if a.kind=4\/a.kind=22 then true
 else if a.kind=18 then(if iw a.obj b.fj.dH 0=[]then decide (a.value=-1)else decide (0<=a.value)&&decide (a.value<b.fj.dH.length)&&decide (a.value∈iw a.obj b.fj.dH 0))
 else if a.kind=19 then decide (a.value=(iw a.obj b.fj.dH 0).length)
 else decide (a.value=0)
def Bb(d c:Int):List ez->Nat->Bool->Bool
 | [],_,a=>a
 |e::f,b,a=>if e.dP=d then Bb d c f (b+1) (a||(decide ((b:Int)=c)&&(decide (e.kind=3)||decide (e.kind=23))))else Bb d c f b a
def we(a:List ez)(d:Int)(c:List Int):Bool:=c.all λb=>Bb d b a 0 false
def Fe(c:Int):∀(a:List dJ) (b:Nat),(iw c a b).length<=a.length:=by
 intro a;induction a with
 |nil=>intro b;simp[iw]
 |cons e a d=>intro b;rw[iw];have:=d (b+1);split<;>simp<;>omega
def Cc(a:ez):Bool:=decide (a.kind=3)||decide (a.kind=4)
def mU(a b:ez):Bool:=Cc a&&Cc b&&decide (a.obj=b.obj)&&(decide (a.kind=4)||decide (b.kind=4))
def qR(a:Int):Bool:=decide (a=6)||decide (a=8)||decide (a=10)||decide (a=17)||decide (a=21)
def lq(b:List ez)(a:Int):ez:=(rf b a).getD default
def sg(a:List Int)(b:Int)(c:Nat):Int:=match a with
 | []=>-1
 |x::a=>if x=b then c else sg a b (c+1)
def J4{c:Int}:∀{a:List Int} {b:Nat},0<=sg a c b↔c∈a:=by
 intro a;induction a with
 |nil=>intro b;simp[sg]
 |cons e a d=>intro b;unfold sg;grind
structure GX where
 w:dY
 ev:List ez
 st:List fq
def GX.e(b:GX)(a:Int):ez:=lq b.ev a
def GX.s(b:GX)(a:Int):fq:=(rf b.st a).getD default
def GX.VL(d:GX)(a b:Int)(c:ez->Bool):Bool:=((d.ev.drop a.toNat).take (b-a).toNat).all c
def GX.E9(a:GX)(c b:Int):Bool:=
 if(a.e b).dP=(a.e c).dP then false
 else if(a.e b).kind=6\/(a.e b).kind=10 then decide ((j1 (a.s c) (a.e b).obj).iB=(a.e c).dP)||decide ((a.e c).dP∈(j1 (a.s c) (a.e b).obj).ew)
 else if(a.e b).kind=8 then decide ((j1 (a.s c) (a.e b).obj).iB=(a.e c).dP)
 else if(a.e b).kind=17 then decide ((pj a.w (a.s c) (a.e b).obj).iB=(a.e c).dP)
 else if(a.e b).kind=21 then decide ((a.e b).obj=(a.e c).dP)
 else false
def GX.wV(b:GX)(a c:Int):Bool:=qR (b.e a).kind&&b.E9 a c
def GX.N6{b:GX}{j a:Int}(c:b.E9 j a=true):qR (b.e a).kind=true:=by
 unfold GX.E9 at c;unfold qR;by_cases h:(b.e a).kind=6
 ·simp[h]
 by_cases d:(b.e a).kind=10
 ·simp[d]
 by_cases i:(b.e a).kind=8
 ·simp[i]
 by_cases f:(b.e a).kind=17
 ·simp[f]
 by_cases g:(b.e a).kind=21
 ·simp[g]
 simp[h,d,i,f,g]at c
def GX.Or(c:GX)(d:Int->Int->Bool)(a:List Int):Bool:=
 decide (2<=a.length)&&decide (a.length<=4)&&(a.all λb=>iN b c.ev.length)&&(List.range a.length).all λb=>
  !decide (a.getD b 0<a.getD 0 0)&&d (a.getD ((b+1)% a.length) 0) (a.getD b 0)&&(List.range b).all λf=> !decide ((c.e (a.getD b 0)).dP=(c.e (a.getD f 0)).dP)
def GX.XI(e:GX)(d:List Int):e.Or e.wV d=e.Or e.E9 d:=by
 unfold GX.Or;by_cases hl:2<=d.length;rotate_left
 ·simp[hl]
 congr 1;rw[bm,cD,cD];constructor
 ·intro a c f;have:=a c f;simp only[aB,GX.wV]at this|-;exact⟨⟨this.1.1,this.1.2.2⟩,this.2⟩
 ·intro a c f;have b:=a c f;have g:=a ((c+1)% d.length) (by rw[List.mem_range];exact Nat.mod_lt _ J);simp only[aB,GX.wV]at b g|-;exact⟨⟨b.1.1,GX.N6 g.1.2,b.1.2⟩,b.2⟩
def GX.dead(g:GX)(f:Int->Int->Bool)(e:kG):Bool:=decide (e.a=0)&&decide (e.b=0)&&decide (e.c=0)&&decide (e.d=0)&&g.Or f e.kF
def GX.rac(a:GX)(b c:Int):Bool:=decide (b<c)&& !decide ((a.e b).dP=(a.e c).dP)&&mU (a.e b) (a.e c)&& !((rf a.w.cells (a.e b).obj).getD default).uc
def GX.YZ(a:GX)(b c:Int):Bool:=
 decide (c<b)&&(decide ((a.e b).kind=18)||decide ((a.e b).kind=19))&&decide ((a.e c).kind=16)&&decide ((a.e b).obj=(a.e c).obj)&& !decide ((a.e b).dP=(a.e c).dP)&&
  a.VL (c+1) b (λd=> !decide (d.dP=(a.e c).dP))&&decide ((jS (a.s b) (a.e c).dP).ij=3)&&(decide ((a.e b).kind=19)||decide ((a.e b).value=(a.e c).dP))
def GX.E6(b:Int)(a:ez):Bool:= !(decide (a.dP=b)&&decide (a.kind=15))
def GX.Yi(b:GX)(a c:Int):Bool:=
 decide (a<c)&&decide ((b.e c).dP=(b.e a).dP)&&(jS (b.s a) (b.e a).dP).atomic&&b.VL (a+1) c (GX.E6 (b.e a).dP)
def GX.Yb(a:GX)(d f b c:Int):Bool:=
 decide (b<=c)&&decide ((a.e b).dP=(a.e c).dP)&& !decide ((a.e b).dP=(a.e d).dP)&&mU (a.e d) (a.e b)&&mU (a.e c) (a.e f)
def GX.Ya(a:GX)(b c d f:Int):Bool:=
 decide (b<c)&&decide (d<=f)&&decide ((a.e b).dP=(a.e c).dP)&&decide ((a.e d).dP=(a.e f).dP)&& !decide ((a.e b).dP=(a.e d).dP)&&mU (a.e b) (a.e d)&&mU (a.e f) (a.e c)&&
  a.VL b c (GX.E6 (a.e b).dP)&&(jS (a.s b) (a.e b).dP).atomic
def GX.BI(b:GX)(a:Int):Bool:=iN a b.ev.length
def GX.vR(f:GX)(e:kG):Bool:=
 if e.kind=2 then f.dead f.E9 e
 else if(f.BI e.a&&f.BI e.b&&f.BI e.c&&f.BI e.d)=true then
  (
   if e.kind=1 then decide (e.c=0)&&decide (e.d=0)&&decide (e.kF=[])&&f.rac e.a e.b
   else if e.kind=3 then decide (e.c=0)&&decide (e.d=0)&&decide (e.kF=[])&&f.YZ e.a e.b
   else if e.kind=4 then decide (e.kF=[])&&f.Ya e.a e.b e.c e.d
   else false)
 else false
def GX.vG(f:GX)(e:kG):Bool:=
 if e.kind=1 then decide (e.c=0)&&decide (e.d=0)&&decide (e.kF=[])&&(f.BI e.a&&f.BI e.b)&&f.rac e.a e.b
 else if e.kind=2 then f.dead f.wV e
 else if e.kind=3 then decide (e.c=0)&&decide (e.d=0)&&decide (e.kF=[])&&(f.BI e.a&&f.BI e.b)&&f.YZ e.a e.b
 else if e.kind=4 then decide (e.kF=[])&&(f.BI e.a&&f.BI e.b&&f.BI e.c&&f.BI e.d)&&f.Yi e.a e.b&&f.Yb e.a e.b e.c e.d
 else false
def GX.in0{a:GX}{b:Int}(c:a.BI b=true):a.BI 0=true:=by
 unfold GX.BI at*
 rw[eZ]at*
 omega
def GX.X9{b:GX}{a c g r:Int}(u:b.BI a=true):(b.Yi a c&&b.Yb a c g r)=b.Ya a c g r:=by
 have w:mU (b.e a) (b.e g)=true->a<c->b.VL a c (GX.E6 (b.e a).dP)=b.VL (a+1) c (GX.E6 (b.e a).dP):=by
  intro d q;have⟨t,f⟩:=eZ.1 u;unfold GX.VL;have s:b.ev.drop a.toNat=b.e a::b.ev.drop (a+1).toNat:=by
   rw[show(a+1).toNat=a.toNat+1 by omega,aI f];congr 1;unfold GX.e lq rf;rw[ar t];simp[f]
  rw[s,show(c-a).toNat=(c-(a+1)).toNat+1 by omega,List.take_succ_cons,cd];have v:GX.E6 (b.e a).dP (b.e a)=true:=by
   unfold GX.E6;unfold mU Cc at d;simp only[aB,bY,aO]at d;rcases d.1.1.1 with h|h<;>simp[h]
  rw[v,aZ]
 unfold GX.Yi GX.Yb GX.Ya;by_cases d:mU (b.e a) (b.e g)=true
 ·by_cases q:a<c
  ·rw[w d q];rw[bm];simp only[aB,aO,cg,bU];constructor
   ·rintro⟨⟨⟨⟨f,i⟩,j⟩,k⟩,⟨⟨⟨l,m⟩,n⟩,o⟩,p⟩;exact⟨⟨⟨⟨⟨⟨⟨⟨f,l⟩,i.symm⟩,m⟩,λh=>n h.symm⟩,o⟩,p⟩,k⟩,j⟩
   ·rintro⟨⟨⟨⟨⟨⟨⟨⟨f,l⟩,i⟩,m⟩,n⟩,o⟩,p⟩,k⟩,j⟩;exact⟨⟨⟨⟨f,i.symm⟩,j⟩,k⟩,⟨⟨⟨l,m⟩,λh=>n h.symm⟩,o⟩,p⟩
  ·simp[q]
 ·rw[Bool.not_eq_true]at d;simp[d]
def GX.aeg(f:GX)(e:kG):f.vG e=f.vR e:=by
 unfold GX.vG GX.vR;by_cases g:e.kind=1
 ·rw[ar g,aq J,ar g];by_cases j:e.c=0;rotate_left
  ·simp[j]
  by_cases k:e.d=0;rotate_left
  ·simp[k]
  rw[j,k];cases i:f.BI e.a with
  |false=>simp
  |true=>rw[GX.in0 i];cases f.BI e.b<;>simp
 rw[aq g];by_cases l:e.kind=2
 ·rw[ar l,ar l];unfold GX.dead;rw[GX.XI]
 rw[aq l,aq l];by_cases h:e.kind=3
 ·rw[ar h,aq g,ar h];by_cases j:e.c=0;rotate_left
  ·simp[j]
  by_cases k:e.d=0;rotate_left
  ·simp[k]
  rw[j,k];cases i:f.BI e.a with
  |false=>simp
  |true=>rw[GX.in0 i];cases f.BI e.b<;>simp
 rw[aq h];by_cases m:e.kind=4
 ·rw[ar m,aq g,aq h,ar m];cases i:f.BI e.a with
  |false=>simp
  |true=>
   rw[<-GX.X9 i];cases (f.BI e.b)<;>cases f.BI e.c<;>cases f.BI e.d<;>simp[Bool.and_assoc]
 rw[aq m,aq g,aq h,aq m];simp
section
def kW(a:ez):Int:=if a.kind=18 then a.value else-1
def sZ(b:dY)(a:ez):Bool:=if a.kind=1\/a.kind=2 then decide (a.jk=-1)else(match rf b.iJ a.jk with|some c=>decide (c.dP=a.dP)|none=>false)
def sizeOf(b:dY)(a:Int):Int:=((rf b.cells a).getD default).size
def LZ(b:dY)(a:ez):Bool:=decide (a.mo=[])||decide (a.kind=5)||(Cc a&& !decide (sizeOf b a.obj=0))
def LS(a:ez):Bool:=decide (a.uF=[])||decide (a.kind=4)||decide (a.kind=22)
def qA(c:dY)(b:eQ)(a:ez):Bool:=
 mB c b&&iN a.dP c.dH.length&&(decide (1<=a.kind)&&decide (a.kind<=23))&&iG c b.fj a.dP a.kind a.obj&&sZ c a&&LZ c a&&LS a&&
  yp (b.count.getD a.dP.toNat 0) none a.mo&&yp (b.count.getD a.dP.toNat 0) none a.uF&&ot b a
def kj(c:dY)(b:eQ)(a:ez):eQ:=
 ⟨(eY c b.fj a.dP a.kind a.obj (kW a)).1,if a.kind=4 then b.cells.set a.obj.toNat a.value else b.cells,if a.kind=22 then b.ee.set a.obj.toNat a.value else b.ee,b.count.modify a.dP.toNat (· +1)⟩
def tQ:eQ:=⟨⟨[],0,[],[]⟩,[],[],[]⟩
def jO(c:dY)(b:eQ)(a:ez):eQ×Bool:=if qA c b a=true then(kj c b a,true)else(tQ,false)
section
variable {S E:Type}
def rk(ok:S->E->Bool)(nx:S->E->S):S->List E->Bool
 |_,[]=>true
 |s,a::b=>ok s a&&rk ok nx (nx s a) b
def ye(nx:S->E->S):S->List E->List S
 |_,[]=>[]
 |s,a::b=>s::ye nx (nx s a) b
def vL(go:S->E->S):S->List E->S
 |s,[]=>s
 |s,a::b=>vL go (go s a) b
variable {ok:S->E->Bool}{nx go:S->E->S}
def JK:∀(a:List E) (b:S),(ye nx b a).length=a.length:=by
 intro a;induction a with
 |nil=>intro b;rfl
 |cons d a c=>intro b;simp[ye,c]
def MX(f:∀a b,ok a b=true->go a b=nx a b):∀(c d:List E) (a:S),rk ok nx a (c++d)=(rk ok nx a c&&rk ok nx (vL go a c) d):=by
 intro c;induction c with
 |nil=>intro d a;simp[rk,vL]
 |cons b c g=>
  intro d a;simp only[cy,rk,vL];cases e:ok a b with
  |true=>rw[g,f a b e,aZ,aZ]
  |false=>simp
def EC:∀(a b:List E) (c:S),vL go c (a++b)=vL go (vL go c a) b:=by
 intro a;induction a with
 |nil=>intro b c;rfl
 |cons e a d=>intro b c;simp only[cy,vL,d]
def JL(g:∀a d,ok a d=true->go a d=nx a d):∀(c:List E) (a:S) (b:Nat),rk ok nx a c=true->b<c.length->(ye nx a c)[b]? =some (vL go a (c.take b)):=by
 intro c;induction c with
 |nil=>intro a b _ f;simp at f
 |cons d c h=>
  intro a b e f;simp only[rk,aB]at e;cases b with
  |zero=>simp[ye,vL]
  |succ b=>
   simp only[ye,df,List.take_succ_cons,vL];rw[g a d e.1];exact h _ b e.2 (by simpa using f)
def OS(g:∀b a,ok b a=true->go b a=nx b a):∀(d:List E) (b:S) (c:Nat) (a:E),rk ok nx b d=true->d[c]? =some a->ok (vL go b (d.take c)) a=true:=by
 intro d;induction d with
 |nil=>intro b c a _ e;simp at e
 |cons i d h=>
  intro b c a f e;simp only[rk,aB]at f;cases c with
  |zero=>simp at e;subst e;simpa[vL]using f.1
  |succ c=>
   simp only[List.take_succ_cons,vL];rw[g b i f.1];exact h _ c a f.2 (by simpa using e)
def RV{I:S->Prop}(e:∀a c,I a->I (go a c)):∀(b:List E) (a:S),I a->I (vL go a b):=by
 intro b;induction b with
 |nil=>intro a d;exact d
 |cons c b f=>intro a d;exact f _ (e a c d)
end
def runs(a:dY):eQ->List ez->Bool:=rk (qA a) (kj a)
def OL(a:dY):eQ->List ez->List eQ:=ye (kj a)
def qM(w:dY):eQ->List ez->eQ:=vL λb a=>(jO w b a).1
def rN{c:dY}(b:eQ)(a:ez)(d:qA c b a=true):(jO c b a).1=kj c b a:=by unfold jO;rw[ar d]
def MU(c:dY)(a:List ez)(b:eQ):(OL c b a).length=a.length:=JK a b
def CW(b:dY)(c d:List ez)(a:eQ):runs b a (c++d)=(runs b a c&&runs b (qM b a c) d):=MX (go:=λa e=>(jO b a e).1) rN c d a
def Au{e:dY}{a:List ez}{d:eQ}(b:runs e d a=true)(c:Nat):runs e d (a.take c)=true:=by
 rw[<-cQ c a,CW,aB]at b;exact b.1
def OR{c:dY}{a:List ez}{f:eQ}(d:runs c f a=true)(b e:Nat):runs c (qM c f (a.take b)) ((a.drop b).take e)=true:=by
 rw[<-cQ b a,CW,aB]at d;exact Au d.2 e
def MV{d:dY}(b:List ez)(a:eQ)(c:Nat)(f:runs d a b=true)(g:c<b.length):(OL d a b)[c]? =some (qM d a (b.take c)):=JL (go:=λa e=>(jO d a e).1) rN b a c f g
def SH{d:dY}(c:List ez)(b:eQ)(e:Nat)(a:ez)(f:runs d b c=true)(g:c[e]? =some a):qA d (qM d b (c.take e)) a=true:=OS (go:=λb a=>(jO d b a).1) rN c b e a f g
def oJ{c:dY}{d:eQ}{a:ez}(b:qA c d a=true):mB c d=true/\iN a.dP c.dH.length=true/\iG c d.fj a.dP a.kind a.obj=true:=by
 unfold qA at b;simp only[aB]at b;exact⟨b.1.1.1.1.1.1.1.1.1,b.1.1.1.1.1.1.1.1.2,b.1.1.1.1.1.1.2⟩
structure x8(w:dW):Prop where
 len:w.dL.length<=16
 nT:w.em.dH.length<=4
 run:runs w.em w.jF w.dL=true
 BB:w.jF.fj.BB
def dW.gx(c:dW):GX:=⟨c.em,c.dL,(OL c.em c.jF c.dL).map eQ.fj⟩
def x8.ok{a:dW}(b:x8 a){i:Nat}{e:ez}(c:a.dL[i]? =some e):qA a.em (qM a.em a.jF (a.dL.take i)) e=true:=SH _ _ _ _ b.run c
def x8.st{a:dW}(c:x8 a){b:Nat}(d:b<a.dL.length):a.gx.st[b]? =some (qM a.em a.jF (a.dL.take b)).fj:=by
 unfold dW.gx;rw[aS,MV _ _ _ c.run d];rfl
def x8.e{a:dW}(d:x8 a){i:Int}(g:iN i a.dL.length=true):∃e,a.dL[i.toNat]? =some e/\a.gx.e i=e/\iN e.dP a.em.dH.length=true/\jE a.em e.kind e.obj=true:=by
 have⟨f,b⟩:=eZ.1 g;refine⟨a.dL[i.toNat],by simp[b],?_,?_⟩
 ·unfold GX.e lq rf dW.gx;rw[ar f];simp[b]
 ·have:=d.ok (i:=i.toNat) (e:=a.dL[i.toNat]) (by simp[b]);have⟨_,h,c⟩:=oJ this;refine⟨h,?_⟩;unfold iG at c;simp only[aB]at c;exact c.1.2
def x8.s{a:dW}(c:x8 a){i:Int}(g:iN i a.dL.length=true):a.gx.s i=(qM a.em a.jF (a.dL.take i.toNat)).fj/\kZ a.em (a.gx.s i)=true:=by
 have⟨f,d⟩:=eZ.1 g;have h:=c.st d;have b:a.gx.s i=(qM a.em a.jF (a.dL.take i.toNat)).fj:=by
  unfold GX.s rf;rw[ar f,h];rfl
 refine⟨b,?_⟩;rw[b];have:=(oJ (c.ok (i:=i.toNat) (e:=a.dL[i.toNat]) (by simp[d]))).1;unfold mB at this;simp only[aB]at this;exact this.1.1.1
def JJ{b:dY}{a:eQ}{c:ez}(d:a.fj.BB):(jO b a c).1.fj.BB:=by
 unfold jO;split
 ·exact vk d b _ _ _ _
 ·intro e hl;simp[tQ]at hl
def Ut{d:dY}(c:List ez)(a:eQ)(b:a.fj.BB):(qM d a c).fj.BB:=RV (I:=λa=>a.fj.BB) (λ_ _ b=>JJ b) c a b
def lx(a:dY):fq:=⟨a.ei.map λ_=>⟨-1,[]⟩,-1,a.ee.map λ_=>false,(List.range a.dH.length).map λb=>⟨if b=0 then 1 else 0,0,false⟩⟩
def jU(a:dY):eQ:=⟨lx a,a.cells.map iq.jF,a.ee.map λ_=>0,a.dH.map λ_=>0⟩
def sX(a:dY):(jU a).fj.BB:=by
 intro b hl;unfold jU lx at hl;simp only[List.mem_map]at hl;obtain⟨_,_,rfl⟩:=hl;exact List.Pairwise.nil
def xI(b:dY)(c:List ez)(d a:Nat):dW:=⟨b,a,qM b (jU b) (c.take a),(c.drop a).take d⟩
def Ou{a:dY}{d:List ez}(e:runs a (jU a) d=true)(ht:a.dH.length<=4){b:Nat}(f:b<=16)(c:Nat):x8 (xI a d b c):=
 ⟨by simp[xI];omega,ht,OR e c b,Ut _ _ (sX a)⟩
end
def rn(c:Int)(b:List Int):List ez->Nat->Int
 | [],_=>-1
 |e::d,a=>if e.dP=c/\¬(a:Int)∈b then a else rn c b d (a+1)
def uV(c:Int):List ez->Nat->Int->Int
 | [],_,_=>-1
 |e::d,a,b=>if e.dP=c then(if b=0 then(a:Int)else uV c d (a+1) (IntKind.i64.wrap (b-1)))else uV c d (a+1) b
def fM(c:dW)(a:eK)(b:Int):Int:=rn b a.order c.dL 0
def vy(a:List Bool)(b:Int):Bool:=(rf a b).getD false
def yy(d:dW)(b:List Bool)(c first a:Int):Bool:=decide (a<first)||vy b (uV c d.dL 0 (IntKind.i64.wrap (a-first)))
def mT(c:dW)(d:eK)(b:Int)(a:List Int):Bool:=match rf c.jF.count b with
 |some first=>a.all (yy c d.fixed b first)
 |none=>decide (a=[])
def ji(a:dW)(b:eK)(c:Int):Bool:=
 if fM a b c<0 then false
 else iG a.em b.fj c (lq a.dL (fM a b c)).kind (lq a.dL (fM a b c)).obj&&mT a b c (lq a.dL (fM a b c)).mo
def cont(a:Bool)(b:Int):gu:=if a=true then⟨b,true⟩else⟨0,false⟩
def fixC(a:List gu)(b c:Int):Bool:=decide (rf a b=some ⟨c,true⟩)
def VY:eK:=⟨⟨[],0,[],[]⟩,[],[],[],[],[]⟩
def wJ(e:dW)(b:eK)(c:Int)(a:ez)(d f:Int):eK:=
 ⟨
  (eY e.em b.fj d a.kind a.obj f).1,
  if a.kind=4 then b.cells.set a.obj.toNat (cont (mT e b d a.uF) a.value)else b.cells,
  if a.kind=22 then b.ee.set a.obj.toNat (cont (mT e b d a.uF) a.value)else b.ee,
  b.order++[c],
  if a.kind=3 then b.fixed.set c.toNat (fixC b.cells a.obj a.value)else if a.kind=23 then b.fixed.set c.toNat (fixC b.ee a.obj a.value)else b.fixed,
  if a.kind=18 then(if 0<=(eY e.em b.fj d a.kind a.obj f).2 then b.qQ.set c.toNat 1 else b.qQ)
   else if a.kind=19 then b.qQ.set c.toNat (eY e.em b.fj d a.kind a.obj f).2 else b.qQ⟩
def rZ(b:dW)(c:eK)(a:fX):eK×Bool:=
 if ji b c a.dP=true then(wJ b c (fM b c a.dP) (lq b.dL (fM b c a.dP)) a.dP a.vQ,true)else(VY,false)
def kh(a:dW):eK:=⟨a.jF.fj,a.jF.cells.map λb=>⟨b,true⟩,a.jF.ee.map λb=>⟨b,true⟩,[],List.replicate a.dL.length false,List.replicate a.dL.length 0⟩
def oc(a:dW)(b:eK)(c:Int):List Int:=
 if 0<=fM a b c/\(lq a.dL (fM a b c)).kind=18/\iw (lq a.dL (fM a b c)).obj b.fj.dH 0≠ []then iw (lq a.dL (fM a b c)).obj b.fj.dH 0 else [-1]
def lN(c:dW)(b:eK)(e:Nat):List fX:=(List.range e).flatMap λ(a:Nat)=>if ji c b a=true then(oc c b a).map λd=>⟨a,d⟩else []
def m7(a:dW):List Int->List fX->eK->List fX×eK
 | [],c,b=>(c,b)
 |n::d,c,b=>if lN a b a.em.dH.length=[]then(c,b)
  else m7 a d (c++[(lN a b a.em.dH.length).getD (n% (lN a b a.em.dH.length).length).toNat default]) (rZ a b ((lN a b a.em.dH.length).getD (n% (lN a b a.em.dH.length).length).toNat default)).1
def Lu(a:dW)(c:eK)(b:Int):Bool:=decide (fM a c (lq a.dL b).dP=b)&&ji a c (lq a.dL b).dP
def place(a:eK)(b:Int):Int:=sg a.order b 0
def HB(a:eK)(b:Int):Bool:=decide (rf a.qQ b=some 0)
structure wX(N:Nat)(w:dW)(c:eK):Prop where
 fx:c.fixed.length=w.dL.length
 wk:c.qQ.length=w.dL.length
 ce:w.dL≠ []->c.cells.length=w.em.cells.length
 fu:w.dL≠ []->c.ee.length=w.em.ee.length
 ft:w.dL≠ []->kZ w.em c.fj=true
 rd:∀l∈c.fj.ei,l.ew.length<=N
 BB:c.fj.BB
 od:c.order.length<=N
def allI{b:Type}(a:Nat->b->Bool):Nat->List b->Bool
 |_,[]=>true
 |k,d::c=>a k d&&allI a (k+1) c
def uY(a:Nat):Bool:=decide (97<=a/\a<=122)||decide (65<=a/\a<=90)
def El(a:Nat):Bool:=decide (48<=a/\a<=57)
def wI(a:Nat):Bool:=uY a||El a||decide (a=95)
def nK:List (List Nat):=[[118,97,114],[118,111,108,97,116,105,108,101],[109,117,116,101,120],[114,119,108,111,99,107],[99,111,110,100],[102,117,116,117,114,101],[116,104,114,101,97,100],[105,102],[101,108,115,101],[119,104,105,108,101],[108,111,99,107],[114,101,97,100],[119,114,105,116,101],[116,114,97,110,115,97,99,116,105,111,110],[97,116,111,109,105,99],[119,97,105,116],[110,111,116,105,102,121],[110,111,116,105,102,121,97,108,108],[115,112,97,119,110],[106,111,105,110],[115,101,116],[103,101,116]]
def uz(a:List Nat):Bool:=decide (a∈nK)
def LP(a:List Nat):Bool:=match a with|c::_=>uY c| []=>false
def uv(a:List Nat):Bool:=decide (1<=a.length)&&decide (a.length<=12)&& !uz a&&LP a&&a.all wI
def wB(a:List (List Nat)):Bool:=a.all uv&&decide a.Nodup
def Lr(a:iq)(c:List iq):Bool:=allI (λb d=>decide (d={a with index:=b,uc:=false})) 0 (c.take a.size.toNat)
def je:List iq->aa (List (List Nat))
 | []=>some []
 |c::a=>if c.size=0 then(if c.index=0 then(je a).map (c.name:: ·)else none)
  else if d:c.size<1\/4<c.size\/(a.length+1:Int)<c.size then none
  else if Lr c (c::a)=true then(je ((c::a).drop c.size.toNat)).map (c.name:: ·)else none
 termination_by b=>b.length
 decreasing_by
  ·simp
  ·simp;omega
def lQ(b:Nat):Int->Int->List iK->Bool
 |_,_,[]=>true
 |t,d,a::c=>if a.dP<t\/(b:Int)<=a.dP then false else
  if t<a.dP then(if a.stmt=0 then lQ b a.dP 1 c else false)else(if a.stmt=d then lQ b t (d+1) c else false)
def ux(c:dY)(a:Int)(rw:Bool):Bool:=match rf c.ei a with|some b=>b.rW==rw|none=>false
def sY(a:dY):Bool:=decide (a.cells.length<=12)&&decide (a.ei.length<=4)&&decide (a.gF.length<=2)&&decide (a.ee.length<=2)&&decide (a.iJ.length<=60)&&decide (1<=a.dH.length)&&decide (a.dH.length<=4)
def rJ(a:dY)(b:List (List Nat)):List (List Nat):=b++a.ei.map (·.name)++a.gF.map (·.name)++a.ee++a.dH
def CG(a:dY):Bool:=match je a.cells with|none=>false|some b=>wB (rJ a b)
def j8(a:dY):Bool:=sY a&&CG a&&(a.gF.all λb=>ux a b.kv false)&&lQ a.dH.length 0 0 a.iJ
def w7(c:dY)(b:Int):Bool:=match rf c.cells b with|some a=>decide (a.size=0)|none=>false
def A3(d:dY)(b c:Int):Bool:=match rf d.cells b with|some a=>decide (a.index=0)&& !decide (a.size=0)&&decide (a.size=c)|none=>false
def jb(d:fR):List Int:=
 if d.op=1\/d.op=6\/d.op=10\/d.op=27 then [d.a]else if d.op=2\/d.op=3 then [d.a,d.b]else if d.op=4 then [d.a,d.b,d.c]
 else if d.op=7 then [d.a,d.c]else if d.op=8\/d.op=26 then [d.b]else if d.op=9 then [d.b,d.c]else []
def mH(d:dY)(c:fR):Bool:=
 if c.op=6 then w7 d c.b else if c.op=8 then w7 d c.a else if c.op=7 then A3 d c.b c.n else if c.op=9 then A3 d c.a c.n
 else if c.op=11\/c.op=12 then ux d c.a false else if c.op=13\/c.op=14\/c.op=15\/c.op=16 then ux d c.a true
 else if c.op=21\/c.op=22\/c.op=23 then iN c.a d.gF.length else if c.op=24\/c.op=25 then iN c.a d.dH.length
 else if c.op=26 then iN c.a d.ee.length else if c.op=27 then iN c.b d.ee.length
 else if c.op=3 then decide (c.n=4\/c.n=5)else if c.op=4 then decide (6<=c.n/\c.n<=18)else true
def wZ(a:Int):Bool:=decide (1<=a/\a<=5)
def KE(b:fR)(c:Int):Int:=if b.op=5 then b.a else c+1
def DH(c:List fR):Nat->Int->Bool
 |0,_=>false
 |m+1,b=>match rf c b with
  |none=>false
  |some a=>if wZ a.op=true then DH c m (KE a b)else true
def Ap(a:dJ):Bool:=decide (a.ij=3)||decide (a.ij=4)
def Hj{b a:Type}(e:b->a->Bool)(f:List a->a->Bool)(d:b->a->b):List a->b->List a->Bool
 |_,_,[]=>true
 |pre,g,c::h=>(e g c&&f pre c)&&Hj e f d (pre++[c]) (d g c) h
def N0{c a:Type}{g:c->a->Bool}{j:List a->a->Bool}{f:c->a->c}:∀(b h:List a) (e:c),Hj g j f h e b=true->rk g f e b=true:=by
 intro b;induction b with
 |nil=>intro _ _ _;rfl
 |cons k b i=>
  intro h e d;simp only[Hj,aB]at d;simp only[rk,aB];exact⟨d.1.1,i _ _ d.2⟩
def Sg(b:List ez)(a:ez):Bool:=we b a.dP a.mo&&we b a.dP a.uF
def qj(a:dY)(b:List ez):Bool:=decide (b.length<=400)&&j8 a&&Hj (qA a) Sg (kj a) [] (jU a) b
def Aa{b:dY}{c:List ez}(a:qj b c=true):runs b (jU b) c=true/\b.dH.length<=4/\c.length<=400:=by
 unfold qj at a;simp only[aB,aO]at a;refine⟨N0 _ _ _ a.2,?_,a.1.1⟩;have d:=a.1.2;unfold j8 sY at d;simp only[aB,aO]at d;omega
structure sO(N:Nat)(s:eQ):Prop where
 l:s.fj.ei.length<=1000/\s.fj.done.length<=1000/\s.fj.dH.length<=1000/\s.cells.length<=1000/\s.ee.length<=1000/\s.count.length<=1000
 r:∀l∈s.fj.ei,l.ew.length<=N
 a:s.fj.BB
 c:∀c∈s.count,-N<=c/\c<=N
def sO.up{f e:Nat}{g:eQ}(b:sO f g)(j:f<=e):sO e g:=⟨b.l,λi d=>by have:=b.r i d;omega,b.a,λh d=>by have:=b.c h d;omega⟩
def Xh{b:Nat}{c:fq}{i:Int}{d:dR->dR}(e:∀a∈c.ei,a.ew.length<=b)(g:∀a∈c.ei,(d a).ew.length<=b+1):∀a∈(c.pw i d).ei,a.ew.length<=b+1:=by
 intro a hl;rcases mem_modify hl with f|⟨j,h,rfl⟩
 ·have:=e a f;omega
 ·exact g j h
def F6{d:Nat}{j:fq}(k:∀a∈j.ei,a.ew.length<=d)(p:dY)(h m n q:Int):∀a∈(eY p j h m n q).1.ei,a.ew.length<=d+1:=by
 have c:∀a∈j.ei,a.ew.length<=d+1:=λa o=>by have:=k a o;omega
 have l:∀(f:Int) (b:dR->dR),(∀a,(b a).ew=a.ew\/(b a).ew=lK a.ew h\/(b a).ew=a.ew.filter λg=> !decide (g=h))->∀a∈(j.pw f b).ei,a.ew.length<=d+1:=λf b i=>Xh k λa hl=>by
  have r:=k a hl;rcases i a with e|e|e<;>rw[e]
  ·omega
  ·have:=DJ a.ew h;omega
  ·have:=List.length_filter_le (λg=> !decide (g=h)) a.ew;omega
 exact vl (P:=λg=>∀a∈g.1.ei,a.ew.length<=d+1) c c (λ_ _ _=>c) (λf b i=>⟨l f b i,λ_ _=>l f b i⟩) (λ_=>c) (λ_ _=>c) (λ_=>c)
def MH(a:Nat):sO a tQ:=⟨by simp[tQ],by simp[tQ],by intro b hl;simp[tQ]at hl,by simp[tQ]⟩
def sO.step{e:Nat}{f:eQ}(d:sO e f)(h:dY)(b:ez):sO (e+1) (jO h f b).1:=by
 unfold jO;split
 ·have hl:=vj h f.fj b.dP b.kind b.obj (kW b);have⟨l1,l2,l3,l4,l5,l6⟩:=d.l;refine⟨⟨by show(eY ..).1.ei.length<=_;omega,by show(eY ..).1.done.length<=_;omega,by show(eY ..).1.dH.length<=_;omega,?_,?_,?_⟩,F6 d.r _ _ _ _ _,vk d.a _ _ _ _ _,λg i=>?_⟩
  ·unfold kj;simp only;split<;>simp[l4]
  ·unfold kj;simp only;split<;>simp[l5]
  ·unfold kj;simp[l6]
  ·rcases mem_modify (show g∈f.count.modify b.dP.toNat (· +1)from i)with k|⟨m,j,rfl⟩
   ·have:=d.c g k;omega
   ·have:=d.c m j;omega
 ·exact(MH e).up (Nat.le_succ e)
def sO.qM{w:dY}:∀(a:List ez) {b:Nat} {c:eQ},sO b c->sO (b+a.length) (qM w c a):=by
 intro a;induction a with
 |nil=>intro b c d;exact d
 |cons e a f=>
  intro b c d;have:=f (d.step w e);rw[show b+1+a.length=b+(e::a).length by simp;omega]at this;exact this
def uK(a:dY)(d:a.ei.length<=1000/\a.ee.length<=1000/\a.dH.length<=1000/\a.cells.length<=1000):sO 0 (jU a):=by
 refine⟨by simp[jU,lx];omega,λe hl=>?_,sX a,λc b=>?_⟩
 ·simp[jU,lx]at hl;obtain⟨_,rfl⟩:=hl;simp
 ·simp[jU]at b;omega
end
end Go.Proofs.YtajpdafdickapaaGreatDoor
namespace Go.TI
noncomputable section
section
attribute [-simp] fa eg
section
def gT(a:Bool)(b:T):T:=match a with|true=>b|false=> .undef
def mgT(a:Bool)(b c:T):T:=match a with|true=>b|false=>c
@[simp]theorem abz (b:Bool) (a:T):mgT b a a=a:=by cases b<;>rfl
@[simp]theorem af3 (a:Bool) (b:T):mgT a b .undef=gT a b:=by cases a<;>rfl
@[simp]theorem af2 (a:Bool) (b:T):mgT a .undef b=gT (!a) b:=by cases a<;>rfl
@[simp]theorem af4 (a b c:Bool):mgT a (.bool b) (.bool c)= .bool (bif a then b else c):=by cases a<;>rfl
def Xa(a:Bool)(b c:fW):fW:=match a with|true=>b|false=>c
@[simp]theorem abx (b:Bool) (a:fW):Xa b a a=a:=by cases b<;>rfl
@[simp]theorem aby (a:Bool) (b:Nat) (e g:T) (c d:fW):Xa a (.cons b e c) (.cons b g d)= .cons b (mgT a e g) (Xa a c d):=by cases a<;>rfl
def vH:fW->Nat->T->fW
 | .nil,_,_=> .nil
 | .cons a e b,c,d=>if a=c then .cons a d b else .cons a e (vH b c d)
@[simp]def MW (a c:Nat) (e d:T) (b:fW):vH (.cons a e b) c d=if a=c then .cons a d b else .cons a e (vH b c d):=id rfl
def uf:∀{c:fW} {b:Nat} {d:T},dM c b=some d->vH c b d=c
 | .nil,_,_,_=>rfl
 | .cons e i g,b,d,h=>by
  rw[mz]at h;rw[MW];by_cases a:e=b
  ·rw[ar a]at h;simp only[au]at h;rw[ar a,h]
  ·rw[aq a]at h;rw[aq a,uf h]
def EN(a:Nat):List Oper->List Oper
 | []=>[]
 |o::c=>match o.guard with|some (b,_)=>if a<=b then o::EN a c else []|none=>[]
def LY(b:Nat):List Oper->List Oper
 | []=>[]
 |o::a=>match o.guard with|some (c,_)=>if b<=c then LY b a else o::a|none=>o::a
def OD(b:Nat):∀a,EN b a++LY b a=a
 | []=>rfl
 |o::a=>by
  unfold EN LY;cases o.guard with
  |none=>rfl
  |some c=>
   simp only;split
   ·rw[cy,OD b a]
   ·rfl
section
variable {cx:Ctx}{cf:jd}{mask:Nat}
@[simp]def afW (c:Nat) (b:aa Tmp) (e:Op) (i:ab) (g:String) (a:af Edge) (d:List Oper):EN c (⟨b,e,i,g,a,none⟩::d)=[]:=id rfl
@[simp]def agd (i:Nat) (b:aa Tmp) (d:Op) (g:ab) (e:String) (a:af Edge) (c:List Oper):LY i (⟨b,d,g,e,a,none⟩::c)=⟨b,d,g,e,a,none⟩::c:=id rfl
@[simp]def afX (a b:Nat) (d:Bool) (e:aa Tmp) (i:Op) (k:ab) (j:String) (c:af Edge) (g:List Oper):EN a (⟨e,i,k,j,c,some (b,d)⟩::g)=if a<=b then⟨e,i,k,j,c,some (b,d)⟩::EN a g else []:=id rfl
@[simp]def age (a b:Nat) (e:Bool) (g:aa Tmp) (i:Op) (k:ab) (j:String) (d:af Edge) (c:List Oper):LY a (⟨g,i,k,j,d,some (b,e)⟩::c)=if a<=b then LY a c else⟨g,i,k,j,d,some (b,e)⟩::c:=id rfl
def wc(a:af Oper)(c:Oper)(g:List Oper)(b:Env)(h:H):
 kI cx cf mask a (c::g) b h=dV (yO cx cf mask a b h c) λi=>two i λj e=>dV (b.dst mask c.dst j) λd=>kI cx cf mask a g d e:=by
 show(dV (lH cx cf mask a b h c) λi=>two i λd e=>kI cx cf mask a g d e)=_;rw[rE]
def tS(b:af Oper):∀(c d:List Oper) (a:Env) (h:H),kI cx cf mask b (c++d) a h=dV (kI cx cf mask b c a h) λi=>two i λe g=>kI cx cf mask b d e g
 | [],_,_,_=>rfl
 |o::c,d,a,h=>by
  rw[cy,wc,wc];cases yO cx cf mask b a h o with
  |none=>rfl
  |some i=>
   obtain⟨j,g⟩:=i;simp only[ed,kN];cases a.dst mask o.dst j with
   |none=>rfl
   |some e=>simp only[ed];exact tS b c d e g
def rF(cx:Ctx)(cf:jd)(mask:Nat)(b:af Oper)(a:List Oper)(d c:fW)(h:H):aa (Env×H):=kI cx cf mask b a ⟨d,c⟩ h
def SG(l:aa (T×H))(cx:Ctx)(cf:jd)(mask:Nat)(e:af Oper)(a:aa Tmp)(d:List Oper)(k i:fW):aa (Env×H):=
 dV l λg=>two g λj c=>dV (Env.dst mask ⟨k,i⟩ a j) λb=>kI cx cf mask e d b c
@[simp]def aaP (c:af Oper) (b a:fW) (h:H):rF cx cf mask c [] b a h=some (⟨b,a⟩,h):=id rfl
def Q5(d b:fW)(a:Tmp)(c:T):Env.dst mask ⟨d,b⟩ (some a) c=some (if(mask>>>a)&&&1=1 then⟨put d a c,b⟩else⟨d,.cons a c b⟩):=by
 show @Bool.rec (λ_=>aa Env) (some ⟨d,.cons a c b⟩) (dV (lZ d a c) λe=>some ⟨e,b⟩) (ks mask a)=_;rw[pI];have:=DG mask a;cases hl:ks mask a with
 |true=>rw[ar (by rw[<-this];exact hl)];rfl
 |false=>rw[aq (by rw[<-this,hl];simp)]
@[simp]theorem ad1 (e:T) (h:H) (c:af Oper) (a:Tmp) (b:List Oper) (g d:fW):SG (some (e,h)) cx cf mask c (some a) b g d=
 if(mask>>>a)&&&1=1 then rF cx cf mask c b (put g a e) d h else rF cx cf mask c b g (.cons a e d) h:=by
 unfold SG;rw[ed,kN,Q5,ed];split<;>rfl
def G3(o:aa Tmp)(i:aa Bool)(m:Nat)(l:Bool)(cx:Ctx)(cf:jd)(mask:Nat)(g:af Oper)(c:aa Tmp)(e:Op)(p:ab)(n:String)(k:af Edge)(d:List Oper)(b a:fW)(h:H):aa (Env×H):=
 SG (dV i λj=> @Bool.rec (λ_=>aa (T×H)) (some (.undef,h)) (fin cf h (jr e cx mask ⟨b,a⟩ h)) j) cx cf mask g c d b a
def JQ(a:af Oper)(j:aa Tmp)(k:Op)(m:ab)(l:String)(i:af Edge)(c:Nat)(b:Bool)(d:List Oper)(g e:fW)(h:H)(n:aa Tmp):
 rF cx cf mask a (⟨j,k,m,l,i,some (c,b)⟩::d) g e h=G3 n (kE a mask ⟨g,e⟩ (some (c,b))) c b cx cf mask a j k m l i d g e h:=wc a _ d _ h
@[simp]def HQ (b:List Oper) (i:aa Tmp) (k:Op) (m:ab) (l:String) (g:af Edge) (a:Nat) (c:Bool) (j:List Oper) (e d:fW) (h:H):
 rF cx cf mask b.toArray (⟨i,k,m,l,g,some (a,c)⟩::j) e d h=G3 (dV (b[a]?) λn=>n.dst) (kE b.toArray mask ⟨e,d⟩ (some (a,c))) a c cx cf mask b.toArray i k m l g j e d h:=JQ b.toArray i k m l g a c j e d h _
@[simp]def ad7 (m:aa Tmp) (k:Nat) (j:Bool) (g:af Oper) (c:aa Tmp) (e:Op) (n:ab) (l:String) (i:af Edge) (d:List Oper) (b a:fW) (h:H):G3 m (some true) k j cx cf mask g c e n l i d b a h=SG (fin cf h (jr e cx mask ⟨b,a⟩ h)) cx cf mask g c d b a:=id rfl
@[simp]def acP (m:aa Tmp) (j:Nat) (i:Bool) (c:af Oper) (a:aa Tmp) (k:Op) (n:ab) (l:String) (g:af Edge) (b:List Oper) (e d:fW) (h:H):G3 m (some false) j i cx cf mask c a k n l g b e d h=SG (some (.undef,h)) cx cf mask c a b e d:=id rfl
def Yy(a:Bool)(g i:aa (Env×H))(cx:Ctx)(cf:jd)(mask:Nat)(c:af Oper)(e:List Oper):aa (Env×H):=dV (bif a then g else i) λd=>two d λb h=>kI cx cf mask c e b h
@[congr] theorem ZA {a b:Bool} {g i j k:aa (Env×H)} {c:af Oper} {d e:List Oper} (l:a=b) (m:g=i) (n:j=k) (hr:d=e):Yy a g j cx cf mask c d=Yy b i k cx cf mask c e:=by rw[l,m,n,hr]
@[simp]theorem aee (a:Bool) (g d i e:fW) (h:H) (b:af Oper) (c:List Oper):Yy a (some (⟨g,d⟩,h)) (some (⟨i,e⟩,h)) cx cf mask b c=rF cx cf mask b c (Xa a g i) (Xa a d e) h:=by cases a<;>rfl
def LW{e c:fW}{a:Tmp}{d:T}(g:(mask>>>a)&&&1=0)(b:Env.get mask ⟨e,c⟩ a=some d):dM c a=some d:=by
 rw[Ct,aq J]at b;exact b
def OV{b:List Oper}{g:Tmp}{i:Bool}{a:List Oper}{d c:fW}{h:H}(e:Nat)(n:(mask>>>g)&&&1=0)(m:Env.get mask ⟨d,c⟩ g=some (.bool i)):
 rF cx cf mask b.toArray a d c h=Yy i (rF cx cf mask b.toArray (EN e a) d (vH c g (.bool true)) h) (rF cx cf mask b.toArray (EN e a) d (vH c g (.bool false)) h) cx cf mask b.toArray (LY e a):=by
 have j:=LW n m;have:rF cx cf mask b.toArray a d c h=dV (rF cx cf mask b.toArray (EN e a) d c h) λo=>two o λk l=>kI cx cf mask b.toArray (LY e a) k l:=by
  show kI cx cf mask b.toArray a ⟨d,c⟩ h=_
  conv=>lhs;rw[<-OD e a]
  exact tS _ _ _ _ _
 rw[this];cases i
 ·conv=>lhs;rw[<-uf j]
  rfl
 ·conv=>lhs;rw[<-uf j]
  rfl
def R7(d:List Oper)(b:Tmp)(o:Bool)(a:Nat)(c:Bool)(g:aa Tmp)(j:Op)(l:ab)(k:String)(e:af Edge)(i:List Oper)(n m:fW)(h:H)(r:Bool)
 (s:(mask>>>b)&&&1=0) (p:(dV (d[a]?) λu=>u.dst)=some b) (q:Env.get mask ⟨n,m⟩ b=some (.bool o)) (t:r=(o==c)):
 G3 (some b) (some r) a c cx cf mask d.toArray g j l k e i n m h=
  Yy o (rF cx cf mask d.toArray (EN a (⟨g,j,l,k,e,some (a,c)⟩::i)) n (vH m b (.bool true)) h) (rF cx cf mask d.toArray (EN a (⟨g,j,l,k,e,some (a,c)⟩::i)) n (vH m b (.bool false)) h) cx cf mask d.toArray (LY a (⟨g,j,l,k,e,some (a,c)⟩::i)):=by
 subst t;rw[<-OV a s q,HQ,p,CL,p,ed,q,CJ]
@[simp low] theorem ad8 (c:List Oper) (b:Tmp) (e:Bool) (a:Nat) (g:aa Tmp) (j:Op) (l:ab) (k:String) (d:af Edge) (i:List Oper) (n m:fW) (h:H)
 (q:(mask>>>b)&&&1=0) (o:(dV (c[a]?) λr=>r.dst)=some b) (p:Env.get mask ⟨n,m⟩ b=some (.bool e)):
 G3 (some b) (some e) a true cx cf mask c.toArray g j l k d i n m h=
  Yy e (rF cx cf mask c.toArray (EN a (⟨g,j,l,k,d,some (a,true)⟩::i)) n (vH m b (.bool true)) h) (rF cx cf mask c.toArray (EN a (⟨g,j,l,k,d,some (a,true)⟩::i)) n (vH m b (.bool false)) h) cx cf mask c.toArray (LY a (⟨g,j,l,k,d,some (a,true)⟩::i)):=
 R7 c b e a true g j l k d i n m h e q o p dy 
@[simp low] theorem ad9 (d:List Oper) (b:Tmp) (c:Bool) (a:Nat) (g:aa Tmp) (j:Op) (l:ab) (k:String) (e:af Edge) (i:List Oper) (n m:fW) (h:H)
 (q:(mask>>>b)&&&1=0) (o:(dV (d[a]?) λr=>r.dst)=some b) (p:Env.get mask ⟨n,m⟩ b=some (.bool !c)):
 G3 (some b) (some c) a false cx cf mask d.toArray g j l k e i n m h=
  Yy (!c) (rF cx cf mask d.toArray (EN a (⟨g,j,l,k,e,some (a,false)⟩::i)) n (vH m b (.bool true)) h) (rF cx cf mask d.toArray (EN a (⟨g,j,l,k,e,some (a,false)⟩::i)) n (vH m b (.bool false)) h) cx cf mask d.toArray (LY a (⟨g,j,l,k,e,some (a,false)⟩::i)):=
 R7 d b (!c) a false g j l k e i n m h c q o p (by cases c<;>rfl)
def G2(o:aa Tmp)(j:aa Bool)(m:Nat)(l:Bool)(cx:Ctx)(cf:jd)(mask:Nat)(e:af Oper)(b:aa Tmp)(d:Op)(p:ab)(n:String)(k:af Edge)(c:List Oper)(i g:fW)(h:H)(a:iS):Prop:=GK j cx cf mask e b d c i g h a
@[simp]def Od (b:List Oper) (j:aa Tmp) (l:Op) (n:ab) (m:String) (i:af Edge) (a:Nat) (c:Bool) (k:List Oper) (e d:fW) (h:H) (g:iS):
 RK cx cf mask b.toArray (⟨j,l,n,m,i,some (a,c)⟩::k) e d h g=G2 (dV (b[a]?) λo=>o.dst) (kE b.toArray mask ⟨e,d⟩ (some (a,c))) a c cx cf mask b.toArray j l n m i k e d h g:=fa b.toArray j l n m i a c k e d h g
@[simp]def aea (n:aa Tmp) (l:Nat) (k:Bool) (i:af Oper) (d:aa Tmp) (g:Op) (o:ab) (m:String) (j:af Edge) (e:List Oper) (b a:fW) (h:H) (c:iS):G2 n (some true) l k cx cf mask i d g o m j e b a h c=XK (fin cf h (jr g cx mask ⟨b,a⟩ h)) cx cf mask i d e b a c:=id rfl
@[simp]theorem acQ (n:aa Tmp) (k:Nat) (j:Bool) (d:af Oper) (b:aa Tmp) (l:Op) (o:ab) (m:String) (i:af Edge) (c:List Oper) (g e:fW) (h:H) (a:iS):G2 n (some false) k j cx cf mask d b l o m i c g e h a=XK (some (.undef,h)) cx cf mask d b c g e a:=by
 unfold XK;rw[Ai];rfl
def BG(c:Bool)(g i:aa (Env×H))(cx:Ctx)(cf:jd)(mask:Nat)(d:af Oper)(e:List Oper)(b:iS):Prop:=
 (c=true->∃a h,g=some (a,h)/\RK cx cf mask d e a.vars a.tmps h b)/\(c=false->∃a h,i=some (a,h)/\RK cx cf mask d e a.vars a.tmps h b)
@[congr] theorem acX {b c:Bool} {i j k l:aa (Env×H)} {d:af Oper} {e g:List Oper} {a:iS} (m:b=c) (n:i=j) (o:k=l) (hr:e=g):BG b i k cx cf mask d e a=BG c j l cx cf mask d g a:=by rw[m,n,o,hr]
@[simp]def afO (c:Bool) (k i l j:fW) (h:H) (e:af Oper) (g:List Oper) (d:iS):BG c (some (⟨k,i⟩,h)) (some (⟨l,j⟩,h)) cx cf mask e g d=RK cx cf mask e g (Xa c k l) (Xa c i j) h d:=by
 unfold BG;apply propext;cases c
 ·constructor
  ·intro a;have⟨m,n,b,hr⟩:=a.2 rfl;simp only[au,aD]at b;obtain⟨rfl,rfl⟩:=b;exact hr
  ·exact λa=>⟨λo=>by grind,λ_=>⟨_,_,rfl,a⟩⟩
 ·constructor
  ·intro a;have⟨m,n,b,hr⟩:=a.1 rfl;simp only[au,aD]at b;obtain⟨rfl,rfl⟩:=b;exact hr
  ·exact λa=>⟨λ_=>⟨_,_,rfl,a⟩,λo=>by grind⟩
def Yp(e:af Oper)(g q:List Oper)(j i:fW)(h:H)(k:iS):RK cx cf mask e (g++q) j i h k=∃l a,rF cx cf mask e g j i h=some (l,a)/\RK cx cf mask e q l.vars l.tmps a k:=by
 apply propext;show(∃b a,kI cx cf mask e (g++q) ⟨j,i⟩ h=some (b,a)/\k.n ⟨b.vars,.nil⟩ a)↔_;rw[tS];constructor
 ·rintro⟨b,a,c,p⟩;have⟨⟨m,o⟩,d,c⟩:=dI.1 c;exact⟨m,o,d,b,a,c,p⟩
 ·rintro⟨m,o,d,b,a,c,p⟩;have d:kI cx cf mask e g ⟨j,i⟩ h=some (m,o):=d;exact⟨b,a,by rw[d];exact c,p⟩
def R8(i:List Oper)(k:Tmp)(o:Bool)(a:Nat)(b:Bool)(d:aa Tmp)(g:Op)(l:ab)(j:String)(c:af Edge)(e:List Oper)(n m:fW)(h:H)(p:iS)(t:Bool)
 (v:(mask>>>k)&&&1=0) (q:(dV (i[a]?) λx=>x.dst)=some k) (r:Env.get mask ⟨n,m⟩ k=some (.bool o)) (w:t=(o==b)):
 G2 (some k) (some t) a b cx cf mask i.toArray d g l j c e n m h p=
  BG o (rF cx cf mask i.toArray (EN a (⟨d,g,l,j,c,some (a,b)⟩::e)) n (vH m k (.bool true)) h) (rF cx cf mask i.toArray (EN a (⟨d,g,l,j,c,some (a,b)⟩::e)) n (vH m k (.bool false)) h) cx cf mask i.toArray (LY a (⟨d,g,l,j,c,some (a,b)⟩::e)) p:=by
 subst w;have s:=LW v r;have u:G2 (some k) (some (o==b)) a b cx cf mask i.toArray d g l j c e n m h p=RK cx cf mask i.toArray (⟨d,g,l,j,c,some (a,b)⟩::e) n m h p:=by
  rw[Od,q,CL,q,ed,r,CJ]
 rw[u]
 conv=>lhs;rw[<-OD a (⟨d,g,l,j,c,some (a,b)⟩::e)]
 rw[Yp];unfold BG;apply propext;cases o
 ·conv=>lhs;rw[<-uf s]
  simp
 ·conv=>lhs;rw[<-uf s]
  simp
@[simp low] theorem aeb (c:List Oper) (b:Tmp) (e:Bool) (a:Nat) (g:aa Tmp) (j:Op) (l:ab) (k:String) (d:af Edge) (i:List Oper) (n m:fW) (h:H) (o:iS)
 (r:(mask>>>b)&&&1=0) (p:(dV (c[a]?) λs=>s.dst)=some b) (q:Env.get mask ⟨n,m⟩ b=some (.bool e)):
 G2 (some b) (some e) a true cx cf mask c.toArray g j l k d i n m h o=
  BG e (rF cx cf mask c.toArray (EN a (⟨g,j,l,k,d,some (a,true)⟩::i)) n (vH m b (.bool true)) h) (rF cx cf mask c.toArray (EN a (⟨g,j,l,k,d,some (a,true)⟩::i)) n (vH m b (.bool false)) h) cx cf mask c.toArray (LY a (⟨g,j,l,k,d,some (a,true)⟩::i)) o:=
 R8 c b e a true g j l k d i n m h o e r p q dy 
@[simp low] theorem aec (d:List Oper) (b:Tmp) (c:Bool) (a:Nat) (g:aa Tmp) (j:Op) (l:ab) (k:String) (e:af Edge) (i:List Oper) (n m:fW) (h:H) (o:iS)
 (r:(mask>>>b)&&&1=0) (p:(dV (d[a]?) λs=>s.dst)=some b) (q:Env.get mask ⟨n,m⟩ b=some (.bool !c)):
 G2 (some b) (some c) a false cx cf mask d.toArray g j l k e i n m h o=
  BG (!c) (rF cx cf mask d.toArray (EN a (⟨g,j,l,k,e,some (a,false)⟩::i)) n (vH m b (.bool true)) h) (rF cx cf mask d.toArray (EN a (⟨g,j,l,k,e,some (a,false)⟩::i)) n (vH m b (.bool false)) h) cx cf mask d.toArray (LY a (⟨g,j,l,k,e,some (a,false)⟩::i)) o:=
 R8 d b (!c) a false g j l k e i n m h o c r p q (by cases c<;>rfl)
def Yz{c:Bool}{g i:aa (Env×H)}{d:af Oper}{e:List Oper}{b:iS}(j:c=true->∃a h,g=some (a,h)/\RK cx cf mask d e a.vars a.tmps h b)(k:c=false->∃a h,i=some (a,h)/\RK cx cf mask d e a.vars a.tmps h b):BG c g i cx cf mask d e b:=⟨j,k⟩
def J5{a d e:Bool}{h:H}{b c:aa lP}(g:a=true->b=some (.val (.bool d) h))(i:a=false->c=some (.val (.bool e) h)):nh (some (.bool a)) b c=some (.val (.bool (bif a then d else e)) h):=by
 cases a
 ·exact i rfl
 ·exact g rfl
@[simp]def ada (a b:aa lP):nh (some (.bool true)) a b=a:=id rfl
@[simp]def aa4 (b a:aa lP):nh (some (.bool false)) b a=a:=id rfl
@[simp]def af0 (a b c:Bool) (h:H):nh (some (.bool a)) (some (.val (.bool b) h)) (some (.val (.bool c) h))=some (.val (.bool (bif a then b else c)) h):=J5 (λ_=>rfl) (λ_=>rfl)
@[simp]def afZ (a c d b:Bool) (h:H) (g:a=false->b=true):nh (some (.bool a)) (some (.val (.bool c) h)) (some (.val (gT b (.bool d)) h))=some (.val (.bool (bif a then c else d)) h):=J5 (λ_=>rfl) (λe=>by rw[g e];rfl)
@[simp]def afY (a c d b:Bool) (h:H) (g:a=true->b=true):nh (some (.bool a)) (some (.val (gT b (.bool c)) h)) (some (.val (.bool d) h))=some (.val (.bool (bif a then c else d)) h):=J5 (λe=>by rw[g e];rfl) (λ_=>rfl)
end
def kx(th:aj->aa li):Op->Bool
 | .move _| .assign _| .pick .. | .load .. | .nilCheck _| .unOp .. | .binOp .. | .fieldAddr .. | .field .. | .indexAddr .. | .index .. | .extract .. | .slice .. =>true
 | .call b=>(match b.callee with
  | .builtin a=>(match a with| .len| .min| .max=>true|_=>false)
  | .value c=>(match c with| .func f=>(th f).isNone|_=>false)
  |_=>false)
 |_=>false
section
variable {th:aj->aa li}
@[simp]def ac7 (a:ah):kx th (.move a)=true:=id rfl
@[simp]def YL (a:ah):kx th (.assign a)=true:=id rfl
@[simp]def ac6 (a b c:ah):kx th (.pick a b c)=true:=id rfl
@[simp]def ac8 (a:ab) (b:ah):kx th (.load a b)=true:=id rfl
@[simp]def Vb (a:ah):kx th (.nilCheck a)=true:=id rfl
@[simp]def ac5 (a:UnOp) (b:ab) (c:ah):kx th (.unOp a b c)=true:=id rfl
@[simp]def aa0 (a:BinOp) (b:ab) (d e:ah) (c:ab):kx th (.binOp a b d e c)=true:=id rfl
@[simp]def SQ (a:ab) (b:ah) (f:Nat):kx th (.fieldAddr a b f)=true:=id rfl
@[simp]def aaX (a:ab) (b:ah) (f:Nat):kx th (.field a b f)=true:=id rfl
@[simp]def SP (a:ab) (b c:ah):kx th (.indexAddr a b c)=true:=id rfl
@[simp]def Wt (b:ah) (a:Nat):kx th (.extract b a)=true:=id rfl
@[simp]def aaW (d:ab) (e:ah) (a b c:aa ah):kx th (.slice d e a b c)=true:=id rfl
@[simp]def aaY (f:aj) (a:af ah) (b:af ab):kx th (.call ⟨.value (.func f),a,b⟩)=(th f).isNone:=id rfl
@[simp]def aeB (a:af ah) (b:af ab):kx th (.call ⟨.builtin .len,a,b⟩)=true:=id rfl
@[simp]def aeA (a:af ah) (b:af ab):kx th (.call ⟨.builtin .min,a,b⟩)=true:=id rfl
@[simp]def aa1 (a:ab):kx th (.alloc a)=false:=id rfl
@[simp]def aaV (a:ab) (b c:ah):kx th (.store a b c)=false:=id rfl
@[simp]def aaZ (b:ab) (a:af (Nat×ah)):kx th (.build b a)=false:=id rfl
@[simp]def Sh (c:ab) (a:Nat) (b:af (Nat×ah)):kx th (.buildSlice c a b)=false:=id rfl
end
def Kp(th:aj->aa li)(h:H)(e:aa lP):Prop:=∀a,e=some a->(∀d b,a= .val d b->b=h)/\∀f c,a= .call f c->th f=none
section
variable {th:aj->aa li}{h:H}
theorem Kp.val(b:aa T):Kp th h (val h b):=by
 intro c a;have⟨d,_,a⟩:=dI.1 a
 grind
def Kp.one(a:T):Kp th h (some (.val a h)):=Kp.val (some a)
theorem Kp.none:Kp th h none:=by intro a b;grind
theorem Kp.dV{α:Type}{e:aa α}{f:α->aa lP}(d:∀a,Kp th h (f a)):Kp th h (dV e f):=by
 intro c b;have⟨a,_,b⟩:=dI.1 b;exact d a c b
theorem Kp.gJ{b:Bool}{a:aa lP}(e:Kp th h a):Kp th h (gJ b a):=by
 intro c d;exact e c (dQ.1 d).2
def WE{m:Op}(e:kx th m=true)(cx:Ctx)(mask:Nat)(s:Env):Kp th h (jr m cx mask s h):=by
 cases m<;>first|(simp[kx]at e;done)|skip
 case move x=>exact Kp.val _
 case assign x=>exact Kp.val _
 case pick k n j=>
  rw[Tm];unfold nh;refine Kp.dV λa=>?_;cases a<;>first|exact Kp.none|grind [Kp.val]
 case load b n=>simp[Kp.val,Kp.dV]
 case nilCheck x=>exact Kp.dV λa=>by cases a<;>first|exact Kp.none|exact Kp.one _
 case unOp i b x=>simp[Kp.val,Kp.dV]
 case binOp i b x p D=>
  cases i<;>first
   |exact Kp.dV λ_=>Kp.dV λ_=>Kp.val _
   |exact Kp.dV λ_=>Kp.dV λ_=>Kp.dV λ_=>Kp.gJ (Kp.dV λ_=>Kp.val _)
 case fieldAddr b x f=>
  exact Kp.dV λt=>Kp.dV λa=>by
   cases a<;>first|exact Kp.none|exact Kp.dV λ_=>Kp.one _
 case field b x f=>
  exact Kp.dV λt=>Kp.dV λ_=>Kp.dV λa=>by
   cases a<;>first|exact Kp.none|simp[Kp.val,Kp.dV]
 case indexAddr b x g=>
  exact Kp.dV λd=>Kp.dV λa=>Kp.dV λ_=>Kp.dV λg=>by
   cases d.u<;>first|exact Kp.none|(refine Kp.dV λv=>?_;first
    |(cases a<;>first|exact Kp.none|exact Kp.dV λ_=>Kp.gJ (Kp.one _)|exact Kp.gJ (Kp.dV λ_=>Kp.gJ (Kp.gJ (Kp.dV λ_=>Kp.one _))))
    |(refine Kp.gJ ?_;cases a<;>first|exact Kp.none|exact Kp.dV λ_=>Kp.one _|(refine Kp.dV λq=>?_;cases Nat.beq q.sz v.size<;>first|exact Kp.dV λ_=>Kp.one _|simp[Kp.one,Kp.gJ])))
 case index b x g=>
  exact Kp.dV λd=>Kp.dV λa=>Kp.dV λ_=>Kp.dV λg=>by
   cases d.u<;>first|exact Kp.none|(cases a<;>first|exact Kp.none|exact Kp.dV λ_=>Kp.val _|grind [Kp.val,Kp.dV,Kp.gJ])
 case extract x g=>exact Kp.dV λa=>by cases a<;>first|exact Kp.none|exact Kp.val _
 case slice b x n j k=>exact Kp.dV λ_=>Kp.dV λ_=>Kp.gJ (Kp.dV λ_=>Kp.dV λ_=>Kp.dV λ_=>Kp.gJ (Kp.val _))
 rename_i k;obtain⟨r,w,C⟩:=k;cases r with
 |builtin j=>
  refine Kp.dV λl=>?_;cases j<;>first
   |(simp[kx]at e;done)
   |(match l with
    | []=>exact Kp.none
    | [x]=>first|exact Kp.none|(refine Kp.dV λb=>Kp.dV λd=>?_;cases d.u<;>first|exact Kp.none|exact Kp.val _|(cases x<;>first|exact Kp.none|exact Kp.val _))
    | [x,p]=>first|exact Kp.val _|exact Kp.none
    |x::p::E::l=>exact Kp.none)
 |value i=>
  cases i with
  |func f=>
   have z:(th f).isNone=true:=e;refine Kp.dV λl=>?_;intro y c;obtain⟨a,o,c⟩:=dI.1 c;simp only[Na,au]at o;subst o;obtain⟨B,_,c⟩:=dI.1 c;simp only[au]at c;subst c;simp_all
  |_=>simp[kx]at e
 |_=>grind [kx]
end
section
variable {P:ai}{cx:Ctx}{tb:fJ}{mask:Nat}
def Q1{j:Op}(o:kx tb.h j=true){e:Env}{h:H}{k:T}{c:H}(a:fin (qZ P cx tb) h (jr j cx mask e h)=some (k,c)):c=h:=by
 have⟨d,m,a⟩:=dI.1 a;have⟨r,p⟩:=WE o cx mask e d m;rcases d with⟨t,q⟩|⟨f,b⟩
 ·simp only[au,aD]at a;rw[<-a.2];grind
 ·have n:=p _ _ rfl;have a:qZ P cx tb f b h=some (k,c):=a;have g:hl P cx tb f b h=none:=by unfold hl;rw[n]
  rw[Rp]at a;cases i:RO h b with
  |none=>rw[i,Rn,g]at a;grind
  |some l=>
   rw[i,Rm,g]at a;cases hr:rl P cx tb f l with
   |none=>rw[hr]at a;simp at a
   |some s=>
    rw[hr,Ro]at a
    grind
def EF(j:af Oper)(k:List (Nat×Nat))(Q:fW->H->Prop):∀(g:List Oper) (e:Nat) (m:List (Nat×Nat)) (d:List (Nat×H×H)) (b a:fW) (h:H),(g.all λo=>kx tb.h o.op)=true->(∀l∈d,l.2.1=l.2.2)->
 K7 cx (qZ P cx tb) mask j k g e m d b a h Q=WR cx (qZ P cx tb) mask j g b a h Q
 | [],e,m,d,b,a,h,_,_=>by rw[MA,R2]
 |o::g,e,m,d,b,a,h,n,q=>by
  simp only[cd,aB]at n;rw[Jm,Hw];unfold yO;cases kE j mask ⟨b,a⟩ o.guard with
  |none=>apply propext;constructor<;>(first|exact False.elim|(rintro⟨i,c,F,_⟩;simp_all))
  |some C=>
   rw[ed];cases C with
   |false=>
    rw[Jn,Ai];congr 1;funext b a;exact EF j k Q g _ m d b a h n.2 q
   |true=>
    rw[MB];apply propext;have G:∀i c,fin (qZ P cx tb) h (jr o.op cx mask ⟨b,a⟩ h)=some (i,c)->
     ((DK cx mask k e m d o.op ⟨b,a⟩ h c λm d=>WD mask o.dst i b a λb a=>K7 cx (qZ P cx tb) mask j k g (e+1) m d b a c Q)↔WD mask o.dst i b a λb a=>WR cx (qZ P cx tb) mask j g b a c Q):=by
     intro i c y;have z:=Q1 n.1 y;subst z;have D:∀s,mR k e s d:=λs l n _=>by rw[q l n];simp
     have E:∀u v i,o.op≠ .store u v i:=λu v i B=>by have:=n.1;rw[B]at this;simp_all
     have t:∀r p,(∀l∈p,l.2.1=l.2.2)->((WD mask o.dst i b a λb a=>K7 cx (qZ P cx tb) mask j k g (e+1) r p b a c Q)↔WD mask o.dst i b a λb a=>WR cx (qZ P cx tb) mask j g b a c Q):=by
      intro r p w;rw[show(λb a=>K7 cx (qZ P cx tb) mask j k g (e+1) r p b a c Q)=λb a=>WR cx (qZ P cx tb) mask j g b a c Q from by funext b a;exact EF j k Q g _ r p b a c n.2 w]
     unfold DK;split
     ·rw[KL];show(True/\_)/\(WD mask o.dst i b a λb a=>K7 cx (qZ P cx tb) mask j k g (e+1) m (if lL k e=true then(e,c,c)::d else d) b a c Q)↔_;have x:∀l∈(if lL k e=true then(e,c,c)::d else d),l.2.1=l.2.2:=by
       grind
      rw[t _ _ x]
      grind
     ·cases hU cx mask ⟨b,a⟩ c o.op with
      |none=>exact t _ _ q
      |some s=>simp only;rw[t _ _ q];grind
    show(∃i c,_/\_)↔∃i c,_/\_
    grind
@[simp high] theorem ad3 (a:List Oper) (d:List (Nat×Nat)) (b:fW) (h:H) (c:iS) (e:(a.all λg=>kx tb.h g.op)=true):QK cx (qZ P cx tb) mask a (some d) b h c=RK cx (qZ P cx tb) mask a.toArray a b .nil h c:=
 EF a.toArray d (λb h=>c.n ⟨b,.nil⟩ h) a 0 [] [] b .nil h e (λj i=>by grind)
end
def FR(b:T):Prop:=∃a,b= .int .i64 a
@[simp]def adk (a:Int):FR (.int .i64 a)=True:=by simp[FR]
section
variable {P:ai}{cx:Ctx}{f:aj}{α:Type}{A:α->List T}{pre:α->Prop}{Q:α->T->Prop}
noncomputable abbrev nS.jv(_:nS P cx f A pre Q):gG:=wR P cx f A pre Q
def nS.use(c:nS P cx f A pre Q)(a:α)(b:pre a):∃d,Q a d/\∀{tb:fJ},tb.p f=some (wR P cx f A pre Q)->rl P cx tb f (A a)=some d:=⟨_,c.2 a b,λht=>im ht c.1 a b⟩
end
section
variable {P:ai}{cx:Ctx}{f:aj}{α γ:Type}{A:α->List T}{pre:α->Prop}
def nS.fnI(d:nS P cx f A pre (λ_=>FR))(b:γ->α)(c:∀a,pre (b a)):∃e:γ->Int,∀{tb:fJ},tb.p f=some (wR P cx f A pre (λ_=>FR))->∀a,rl P cx tb f (A (b a))=some (.int .i64 (e a)):=by
 refine⟨λa=>(d.2 (b a) (c a)).choose,λht a=>?_⟩;exact(im ht d.1 (b a) (c a)).trans (bE some (d.2 (b a) (c a)).choose_spec)
end
@[simp]def agj (a:iY):il 1 (hE.cons a)=True:=by simp;exact⟨dy,dy,dy⟩
@[simp]def agi (a b:iY):il 2 ((hE.cons a).cons b)=True:=by simp;exact⟨dy,dy,dy⟩
@[simp]def agh (b c d a:iY):il 4 ((((hE.cons b).cons c).cons d).cons a)=True:=by simp;exact⟨dy,dy,dy⟩
def oG(a:ak)(b c:Int):binop .add (.int a b) (.int a c)=some (.int a (a.wrap (b+c))):=by
 show gJ (EK a a) (qr a (b+c))=_;simp
def qS(a:ak)(b c:Int):binop .sub (.int a b) (.int a c)=some (.int a (a.wrap (b-c))):=by
 show gJ (EK a a) (qr a (b-c))=_;simp
def abu(a:ak)(b c:Int):binop .mul (.int a b) (.int a c)=some (.int a (a.wrap (b*c))):=by
 show gJ (EK a a) (qr a (b*c))=_;simp
def IG(c:T):Prop:=∃a b,c= .tuple [.int .i64 a,.int .i64 b]
@[simp]def adl (a b:Int):IG (.tuple [.int .i64 a,.int .i64 b])=True:=by simp[IG]
