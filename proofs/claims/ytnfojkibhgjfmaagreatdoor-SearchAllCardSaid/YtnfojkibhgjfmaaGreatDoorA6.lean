/- DFun -/
import Derived.Test.YtnfojkibhgjfmaaGreatDoorA5
import Derived.Test.YtnfojkibhgjfmaaGreatDoorProg
set_option linter.all false
set_option maxRecDepth 100000
set_option maxHeartbeats 0
namespace Go.Proofs.YtnfojkibhgjfmaaGreatDoor
noncomputable section
open Go Go.TI Tryz
def jk:prog.follows .mixedOrders=true:=dW
def abf:j9.Xu λb a=>dZ prog b a.cmp=D a:=by unfold j9;repeat' first|exact .nil|refine .fw ?_ dW ?_
def iX:jP prog cx:=⟨λb c a=>⟨_,abf.find a⟩⟩
end
end Go.Proofs.YtnfojkibhgjfmaaGreatDoor
namespace Go.TI
noncomputable section
section
def hr(a:H):H:=⟨a.size,a.size,a.iv⟩
@[simp]def qq (a:H):(hr a).size=a.size:=a9
@[simp]def iI (a:H) (b:Nat):(hr a).get b=a.get b:=H.uT a a.size b
@[simp]def agU (a:H):Hp (hr a)=Hp a:=a9
def Re(f:Bool)(c:H)(g:List T)(e:H)(d:T->H->Prop):Prop:=∃b a,G8 f c.size c.low (kJ g) e=D (b,a)/\(d b a\/d (cn b) a)
section
variable {P:ai}{cx:Ctx}{cf:jU}{M:Nat}
def aey(O:P.follows .mixedOrders)(j9:jP P cx){m:aj}{a:Func}{r:DL}(h:H6 P cx m a M r)(C:p9 P cx cf)(i:Bool){b:List T}{c:H}{u:T->H->Prop}(Q:b.length<=a.ntmps)(j:Nat)
 (Y:∀z,oZ z 0 b->W (kw cx cf j M r (a.body.getD .skip) ⟨z,.nil⟩ (hr c)) (CJ cx M a.results.toList λt f=>Re i c t f u)):∃d f,u d f/\sO P cx ⟨m,b,c,d,f⟩:=by
 have⟨y,X,_,K⟩:=oM M a.ntmps 0 b Q;have⟨x,E,I,e,Z,t,S,d,g,hl,hp⟩:=HX (Y y K);have e:=tV _ h.dr _ _ _ e;have⟨B,s⟩:=C6 h.ok;rw[s]at e;have L:wD cx cf j a M i b c=D (d,g):=by
  unfold wD;rw[s];obtain⟨w,aE,A⟩:=c;simp only;rw[X,fj];have e:ll cx cf j M B ⟨y,.nil⟩ ⟨w,w,A⟩=D (x,E,I):=e;rw[e,fj,nK];have U:=rh S;rcases Z with rfl|rfl<;>(simp only;rw[U,fj];exact hl)
 have R:A5 ⟨a,M,i,none⟩:=h.ok;have N:sO P cx ⟨m,b,c,d,g⟩:=λk p q l o n=>sr (F:=⟨a,M,i,none⟩) O j9 h.at_ R cf C j b c d g L k p q l o n;rcases hp with hp|hp
 grind
 exact⟨cn d,g,hp,λk p q l o n=>(N k p q l o n).mono λv aN ⟨⟨aA,ae,al,an,ap⟩,av⟩=>⟨⟨aA,ae.cn,al,an,ap⟩,av⟩⟩
def Nv{tb:ik}{c:mU}(l:P.follows .mixedOrders)(j9:jP P cx){f:aj}{d:Func}{e:DL}(o:H6 P cx f d M e)(i:Bool)(j:List T->H->Nat)(m:∀a b,c.pre a b->a.length<=d.ntmps)
 (n:∀a b,c.pre a b->∀k,oZ k 0 a->W (kw cx (rY P cx tb) (j a b) M e (d.body.getD .skip) ⟨k,.nil⟩ (hr b)) (CJ cx M d.results.toList λp g=>Re i b p g (c.post a b))):c.Ok P cx f:=
 λa b h=>by
  have⟨s,g,q,r⟩:=aey l j9 o (HJ P cx tb) i (m a b h) (j a b) (n a b h)
  grind
end
def abb{P:ai}{cx:Ctx}{cf:jU}{M:Nat}(N:P.follows .mixedOrders)(j9:jP P cx){p:aj}{c:Func}{y:DL}(j:H6 P cx p c M y)(H:p9 P cx cf){b:List T}{m:T->Prop}(hl:nR b)(A:b.length<=c.ntmps)(k:Nat)
 (R:∀f,oZ f 0 b->W (kw cx cf k M y (c.body.getD .skip) ⟨f,.nil⟩ hE) (CJ cx M c.results.toList λC g=>∃a,m a/\Pz g C a)):∃a,m a/\mT P cx p b a:=by
 have an:∃a,m a/\∀f,oZ f 0 b->TI.Y f 0=TI.Y f 0->∃d,cn d=a/\wD cx cf k c M false b hE=D (d,hE):=by
  have⟨l,B,_,s⟩:=oM M c.ntmps 0 b A;have⟨x,I,g,e,S,C,hr,a,r,O,i⟩:=HX (R l s);have e:=tV _ j.dr _ _ _ e;have⟨E,h⟩:=C6 j.ok;rw[h]at e;unfold SQ at i;have⟨d,i,z⟩:=ed.1 i;simp[ay]at z;refine⟨a,r,λ_ _ _=>⟨d,z,?_⟩⟩;unfold wD;rw[h];simp only;rw[B,fj];have e:ll cx cf k M E ⟨l,.nil⟩ ⟨0,0,[]⟩=D (x,I,g):=e;rw[e,fj,nK];have Q:=rh hr;rcases S with rfl|rfl<;>(simp only;rw[Q,fj];exact Mf O i)
 obtain⟨a,r,L⟩:=an;have⟨l,B,_,s⟩:=oM M c.ntmps 0 b A;obtain⟨d,rfl,h⟩:=L l s rfl;refine⟨cn d,r,?_⟩;have K:mT P cx p b d:=Ct (mI _ hl) λn u w o t q=>
  sr (F:=⟨c,M,false,none⟩) N j9 j.at_ j.ok cf H k b hE d hE h n u w o t q
 intro n u w o g t q;refine(K n u w o g t q).mono λv av ⟨⟨ap,U,X,Z,ae⟩,al⟩=>?_;exact⟨⟨ap,U.cn,X,Z,ae⟩,al⟩
def E8(b:T):Prop:=∃a,b= .ej a
def zU(a:Nat)(d:T)(b:H):pP a d b=D (d,⟨b.size,if b.low<a then b.low else a,b.iv⟩):=by obtain⟨f,c,e⟩:=b;show @Bool.rec (λ_=>aa (T×H)) (some (d,⟨f,a,e⟩)) (some (d,⟨f,c,e⟩)) (au c a)=_;by_cases hl:c<a;rw[show au c a=true from aP▸hl,ax hl];rw[show au c a=false by rw[cO];intro g;rw[aP]at g;omega,aw hl]
def MA{h:H}(f:Hp h){a d:Nat}(e:a<=h.size){b:Nat}(c:b<a):(⟨a,d,h.iv.drop (h.size-a)⟩:H).get b=h.get b:=by
 rw[H.get_eq,H.get_eq];simp only;rw[ax c,ax G,cu]
 grind
def tR(a b:H)(j:List T){r:T}{k:T->H->Prop}(t:Hp a)(c:Fr a.size (hr a) b)(f:(Z (j4 b a.size (kJ j)) λq=>some (cn q))=D r)(n:k r a):Re false a j b k:=by
 have⟨p,f,i⟩:=ed.1 f;simp[ay]at i;unfold Re G8;simp[f];have u:Hp b:=c.hp (by simp_all);have m:a.size<=b.low:=c.low (az _);have s:a.size<=b.size:=c.size;have e:b.iv.drop (b.size-a.size)=a.iv:=by
  apply dx;intro d;rw[cu];rcases aW d a.size with hi|hi
  have h:=c.get (a.size-1-d) G;rw[iI,H.get_eq,H.get_eq,ax G,ax G]at h;rw[show b.size-a.size+d=b.size-1-(a.size-1-d)by omega,h]
  grind
  grind [Hp,bY]
 obtain⟨l,o,g⟩:=b;unfold xz;simp only;rw[nV,ax (by grind [Hp]),fj,show ar a.size o=true from cE m];refine⟨p,_,rfl,.inr ?_⟩;rw[i];have:(⟨a.size,a.low,List.drop (Nat.sub l a.size) g⟩:H)=a:=by
  have e:List.drop (Nat.sub l a.size) g=a.iv:=e;rw[e]
 rw[this];exact n
end
section
noncomputable section
variable {cx:Ctx}{M:Nat}{e:Env}{h:H}
end
end
section
structure iS(n:Nat)(h:H):Prop where
 hp:Hp h
 low:h.low<=h.size
 sz:n<=h.size
theorem iS.cons{c:Nat}{b:H}(a:iS c b)(d:jI):iS c (b.cons d):=⟨iD a.hp,by simp[VE];have:=a.low;grind [H.cons],by have:=a.sz;grind [H.cons]⟩
def iS.ne{c:Nat}{a:H}(d:iS c a){b:Nat}(e:b<c):(b=a.size)=False:=by have:=d.sz;grind
def iS.Di{d c:Nat}{b:H}(a:iS d b)(e:c<=d):iS c b:=⟨a.hp,a.low,aU e a.sz⟩
def Lv(c:H)(b:Nat)(g:jI):(fF c b g).low<=c.low:=by
 unfold fF;rcases a:c.put b g with _|h
 simp;obtain⟨e,d,j⟩:=c;have a:(iT (au b e) (Z (lQ j (Nat.sub (Nat.sub e 1) b) g) λf=> @Bool.rec (λ_=>aa H) (some ⟨e,d,f⟩) (some ⟨e,b,f⟩) (au b d)))=D h:=a;have⟨_,a⟩:=fh.1 a;have⟨f,_,a⟩:=ed.1 a;show h.low<=d;cases i:au b d<;>rw[i]at a<;>simp[ay]at a<;>subst a;simp;rw[aP]at i;grind
theorem iS.put{n:Nat}{a:H}(b:iS n a)(d:Nat)(e:jI):iS n (fF a d e):=⟨by simpa using b.hp,by rw[iB];exact aU (Lv a d e) b.low,by rw[iB];exact b.sz⟩
structure ud(sz:Nat)(h h':H):Prop where
 get:∀c x,h.get c=D x->x.sz≠sz->h'.get c=D x
 ok:∀n,iS n h->iS n h'
 size:h.size<=h'.size
def ud.refl(d:Nat)(a:H):ud d a a:=⟨λ_ _ b _=>b,λ_ c=>c,az _⟩
def ud.trans{c:Nat}{e f g:H}(a:ud c e f)(b:ud c f g):ud c e g:=⟨λd j k h=>b.get d j (a.get d j k h) h,λi l=>b.ok i (a.ok i l),aU a.size b.size⟩
theorem ud.cons(e:Nat)(a:H)(c:jI):ud e a (a.cons c):=⟨λf h b _=>by have:=H.fN b;rw[fg,aw G];exact b,λg d=>d.cons c,V⟩
theorem ud.put{d:Nat}{b:H}{a:Nat}{x:jI}(f:b.get a=D x)(i:x.sz=d)(e:jI):ud d b (fF b a e):=⟨λc k h j=>by
 rw[ez f]
 grind,λn g=>g.put a e,V⟩
def vQ.ahy{cx:Ctx}{a:H}{d:T}{b:Nat}{e:List T}(r:vQ a 0 d b e){n o j:ab}{t v c:Ty}(A:cx.ty n=D t)(B:t.u= .slice j)(C:cx.ty j=D c)(E:cx.ty o=D v)(F:v.u= .slice j)(s:c.size=b)(q:1<=c.bytes)
 {x:T} {xs:List T} (L:a.jQ x=D xs) (l:∀y∈xs,y.cells.length=b) (K:(e.length+xs.length)*c.bytes<=70368744177664):
 ∃w k,ju cx a n o d x=be w k/\vQ k 0 w b (e++xs)/\ud b a k:=by
 have I:ju cx a n o d x=km (a.append c.size c.bytes d xs):=by
  unfold ju rM oz;rw[A,fj,E,fj];simp[B,C,F,L,fj];rw[s,mB l,iO]
 rw[I,s];rcases xs with _|⟨f,g⟩
 refine⟨d,a,?_,by grind,ud.refl _ _⟩;show km (iT (rI d) (some (d,a)))=_;rcases r with⟨rfl,_⟩|⟨h,i,p,z,_,rfl,_⟩<;>rfl
 rcases r with⟨rfl,rfl⟩|⟨h,i,p,z,M,rfl,m⟩;refine⟨.arr a.size 0 0 (f::g).length false,a.cons ⟨b,0,0,false,false,f::g⟩,?_,.inr ⟨a.size,0,0,false,aB _,rfl,V⟩,ud.cons _ _ _⟩;show km (a.jK b c.bytes [] (f::g))=_;rw[rR l q c5];rfl;refine⟨.arr h (i+1) 0 (e++f::g).length false,fF a h ⟨b,i+1,p+1,false,false,e++f::g⟩,?_,.inr ⟨h,i+1,p+1,false,M,rfl,by rw[ez m,ax rfl]⟩,ud.put m rfl _⟩;show km (a.oL b c.bytes h i e.length (f::g))=_;rw[Al m l q K];rfl
def vQ.aa2{cx:Ctx}{f:H}{o:T}{b:Nat}{i:Type}{a:i->T}{e:List i}(s:vQ f 0 o b (e.map a)){g k:ab}{n d:Ty}(l:cx.ty g=D n)(m:n.u= .slice k)(p:cx.ty k=D d)(t:d.size=b)(q:1<=d.bytes)
 (r:∀x,Pc (a x)=b) (xs:List i) (v:(e.length+xs.length)*d.bytes<=70368744177664):
 ∃h c,ju cx f g g o (sl (xs.map a))=be h c/\vQ c 0 h b ((e++xs).map a)/\ud b f c:=by
 have⟨h,c,w,y,z⟩:=s.ahy (x:=sl (xs.map a)) (xs:=xs.map a) l m p l m t q V (iD (λj _=>show(a j).cells.length=b from r j)) c5
 grind
def vQ.Pr{cx:Ctx}{c:H}{n:T}{a:Nat}{i:Type}{b:i->T}{g:List i}(r:vQ c 0 n a (g.map b)){h j:ab}{m e:Ty}(k:cx.ty h=D m)(l:m.u= .slice j)(o:cx.ty j=D e)(s:e.size=a)(p:1<=e.bytes)
 (q:∀x,Pc (b x)=a) (x:i) (y:(g.length+1)*e.bytes<=70368744177664):
 ∃f d,ju cx (c.cons ⟨a,0,0,true,false,[b x]⟩) h h n (.arr c.size 0 0 1 false)=be f d/\vQ d 0 f a ((g++[x]).map b)/\ud a c d:=by
 have⟨f,d,t,v,w⟩:=(r.cons ⟨a,0,0,true,false,[b x]⟩).ahy (x:= .arr c.size 0 0 1 false) (xs:=[b x]) k l o k l s p d4 (iD (show(b x).cells.length=a from q x)) c5;exact⟨f,d,t,List.map_append▸v,(ud.cons _ _ _).trans w⟩
def pU{i:Env->H->Out}(b:Nat)(e:Nat->iP->H->Prop){h:jD}
 (n:∀k c a,k<=b->e k c a->W (i ⟨c,.nil⟩ a) (BE (λd a=>d.tmps= .nil/\∃f,k<f/\f<=b/\e f d.vars a) h)) {g:Nat} (o:b<g) {k:Nat} (l:k<=b) {c:iP} {a:H} (j:e k c a):W (qQ i g ⟨c,.nil⟩ a) h:=by
 refine KW (σ:=Nat) (I:=λk d a=>k<=b/\d.tmps= .nil/\e k d.vars a) (m:=λk=>b-k) ?_ g k _ _ G ⟨l,rfl,j⟩;rintro k ⟨c,p⟩ a ⟨l,ht,j⟩
 grind
section
variable {cx:Ctx}
@[simp]def YX (c:Nat) (a b:List T):eqFields cx [] c a b=D true:=a9
def OX{a:Ty}{d:List (Nat×ab)}(e:a.u= .struct d)(f:a.cmp)(b c:List T):Nq cx a (.eQ b) (.eQ c)=eqFields cx d 0 b c:=by unfold Nq;rw[e];simp_all
@[simp]def RQ (a:ak):(U.int a).plain=true:=a9
@[simp]def N5:U.ej.plain=true:=a9
end
end
section
section
variable {P:ai}{cx:Ctx}
def HM{f:aj}{u:List T}{b c:H}{K L:T}(S:sO P cx ⟨f,u,b,K,c⟩)(al:Hp c)(B:b.size<=c.size)
 (U:∀a h,a<b.size->c.get a=D h->c.get a=b.get a\/∀o∈ir h.gU,sL b.size o) (W:j4 c b.size K=D L):
 sO P cx ⟨f,u,b,cn L,⟨b.size,c.low,c.iv.drop (c.size-b.size)⟩⟩:=by
 intro N w s O r j;refine(S N w s O r j).mono λo aA ⟨⟨t,an,F,g,l⟩,q⟩=>?_;have x:∀a e,s a=D e->a<b.size:=λa e d=>r.fN d;have l:BX s t b.size c.size:=l;have hl:∀a e h,a<b.size->t a=D e->c.get a=D h->∀o∈ir h.gU,sL b.size o:=by
  intro a e h d j C;rcases U a h d C with he|he
  rcases l.2.1 a (by rw[j];simp)with k|k;have⟨M,R⟩:=Option.ne_none_iff_exists'.1 k;have⟨aE,p,ae⟩:=r.box a M R;rw[<-he,C]at p;cases p;exact ae.low x;omega;omega
 have v:=St.cut (low:=c.low) F B hl;have z:∀a,a<b.size->(⟨b.size,c.low,c.iv.drop (c.size-b.size)⟩:H).get a=c.get a:=λa d=>MA al B d;refine⟨⟨oK b.size t,(yH F an W).cn,v,⟨⟨g.ext.size,λi X Z=>?_,λa e d=>?_,g.ext.qy,g.ext.kept⟩,g.os,g.tape,g.output⟩,az _,λa d=>?_,λa I m=>absurd I (by show¬b.size<=a;have m:a<b.size:=m;omega)⟩,?_⟩;have⟨ap,av⟩:=g.ext.qd i X Z
 grind [AE]
 rw[xM (x a e d)];exact g.ext.mu a e d;left;have⟨e,j⟩:=Option.ne_none_iff_exists'.1 d;have⟨I,m⟩:=lH j;rcases l.2.1 a (by rw[m];simp)with k|k
 exact k;omega;refine⟨v.wf,az _,q.low,λa d Y=>?_,λa y E=>?_⟩;rw[z a d];exact q.mp a d Y;rw[z a (H.fN E)];exact q.ver a y E
def OP{c d:H}(e:∀a,d.get a=c.get a)(n:Nat):∀b,freeze d n b=freeze c n b:=by grind [freeze,iK,Z,takeN,kZ,Nat.beq,iT,Nat.ble]
def wO{a b:H}(i:∀e,b.get e=a.get e)(n:Nat)(c:T):j4 b n c=j4 a n c:=by
 have g:jA b n=jA a n:=by funext d;cases d<;>(unfold jA;simp[OP i])
 have h:lV b n=lV a n:=by funext d;cases d<;>(unfold lV;simp[g])
 cases c<;>(unfold j4;simp[h])
end
def FT(e:H)(c:Nat->Prop):Nat->T->T->Prop
 |0,_,_=>False
 |d+1,a,g=>(kT a/\(∀b,a≠ .eQ b)/\g=cn a)\/
  (∃h l o m f j k,a= .arr h l o m f/\c h/\e.jQ a=D j/\jr (FT e c d) j k/\g=sl k)\/
  (∃b i,a= .eQ b/\jr (FT e c d) b i/\g= .eQ i)
def jr.imp_mem{α h:Type}{d R':α->h->Prop}{c:List α}{g:List h}(i:jr d c g)(e:∀a∈c,∀b,d a b->R' a b):jr R' c g:=by
 induction i with
 |nil=>exact .nil
 |cons a _ j=>exact .cons (e _ V _ a) (j λk l b=>e k c5 b)
def tQ{α d:Type}{f:α->aa d}{b:List α}{c:List d}(g:jr (λa e=>f a=D e) b c):iK f b=D c:=by
 induction g with
 |nil=>rfl
 |cons a _ h=>rw[kv,a,h];rfl
def FT.AT{h:H}{Vq:Nat->Prop}:∀{d:Nat} {v t:T},FT h Vq d v t->TI.AT h d v=D t:=by
 intro d;induction d with
 |zero=>intro v t c;exact c.elim
 |succ d g=>
  intro v t c;rcases c with⟨j,k,rfl⟩|⟨e,p,u,s,f,q,r,rfl,_,l,a,rfl⟩|⟨m,o,rfl,a,rfl⟩
  unfold TI.AT;rw[wC h 0 d v j k];rfl;rw[BI,l,fj,tQ (a.imp λi e b=>g b)];rfl;rw[YQ,tQ (a.imp λi e b=>g b)];rfl
def Mm{c d:H}{a b g e:Nat}{f:Bool}(h:d.get a=c.get a):d.jQ (.arr a b g e f)=c.jQ (.arr a b g e f):=by rw[iU,iU,h]
def FT.mono{k h':H}{i j:Nat->Prop}(m:∀a,i a->j a/\h'.get a=k.get a):∀{b:Nat} {e d:T},FT k i b e d->FT h' j b e d:=by
 intro b;induction b with
 |zero=>intro e d c;exact c.elim
 |succ b o=>
  intro e d c;rcases c with c|⟨a,s,x,w,f,t,u,rfl,l,v,g,rfl⟩|⟨q,r,rfl,g,rfl⟩
  exact .inl c;exact .inr (.inl ⟨a,s,x,w,f,t,u,rfl,(m a l).1,Mm (m a l).2▸v,g.imp λp a h=>o h,rfl⟩);exact .inr (.inr ⟨q,r,rfl,g.imp λp a h=>o h,rfl⟩)
def FT.deep{k:H}{j:Nat->Prop}:∀{b a:Nat} {e d:T},b<=a->FT k j b e d->FT k j a e d:=by
 intro b;induction b with
 |zero=>intro a e d _ c;exact c.elim
 |succ b l=>
  intro a e d y c;obtain⟨a,rfl⟩:∃q,a=q+1:=⟨a-1,G⟩;rcases c with c|⟨g,r,x,w,f,s,t,rfl,u,v,h,rfl⟩|⟨o,p,rfl,h,rfl⟩
  exact .inl c;exact .inr (.inl ⟨g,r,x,w,f,s,t,rfl,u,v,h.imp λm g i=>l G i,rfl⟩);exact .inr (.inr ⟨o,p,rfl,h.imp λm g i=>l G i,rfl⟩)
def FT.fz{h:H}{Vq:Nat->Prop}{v t:T}(l:FT h Vq 12 v t):TI.fz h v=D t:=by rcases l with⟨i,e,rfl⟩|⟨g,o,s,r,f,p,q,rfl,e,j,a,rfl⟩|⟨b,c,rfl,a,rfl⟩;show(Z (jA h 0 v) λv=>some (cn v))=_;rw[um h i e];rfl;rw[yk,j,fj,tQ (a.imp λm g k=>k.AT)];rfl;have:=FT.AT (h:=h) (Vq:=Vq) (d:=12) (v:= .eQ b) (t:= .eQ c) (.inr (.inr ⟨b,c,rfl,a,rfl⟩));exact this
@[simp]def iL (d:H) (b:Nat->Prop) (c:Nat) (a:ak) (n:Int):FT d b (c+1) (.int a n) (.int a n):= .inl ⟨V,V,V⟩
@[simp]def lI (d:H) (b:Nat->Prop) (c:Nat) (a:List Nat):FT d b (c+1) (.str a) (.str a):= .inl ⟨V,V,V⟩
@[simp]def Ri (d:H) (b:Nat->Prop) (c:Nat) (a:Bool):FT d b (c+1) (.ej a) (.ej a):= .inl ⟨V,V,V⟩
theorem sa(g:H)(d:Nat->Prop)(e:Nat){a:List T}(c:∀b∈a,cn b=b):FT g d (e+1) (sl a) (sl a):=by
 refine .inl ⟨V,by cases a<;>simp[sl],?_⟩;rw[QO];congr 1;induction a with
 |nil=>rfl
 |cons b k h=>rw[aR,c b V,<-h λi j=>c i c5]
def kc(c:H)(a:Nat->Prop)(b:Nat)(f:Bool):FT c a (b+1) (.em [] f) (sl []):= .inl ⟨V,V,by rw[pS];rfl⟩
section
variable {cx:Ctx}{cf:jU}{M n:Nat}{dl:DL}
def ig(b e:Code)(c:Env)(d:H)(a:jD):CK (some (.ej true)) cx cf n M dl b e c d a=W (kw cx cf n M dl b c d) a:=rfl
def fV(e b:Code)(c:Env)(d:H)(a:jD):CK (some (.ej false)) cx cf n M dl e b c d a=W (kw cx cf n M dl b c d) a:=rfl
def fG{d:Bool}{e g:Code}{b:Env}{c:H}{a:jD}(h:d->W (kw cx cf n M dl e b c) a)(i:d=false->W (kw cx cf n M dl g b c) a):CK (some (.ej d)) cx cf n M dl e g b c a:=by simp_all
end
def wR(P:ai)(cx:Ctx)(f:aj){α:Type}(A:α->List T)(pre:α->Prop)(Q:α->T->Prop):iE:=
 ⟨α,A,pre,λa=>Classical.epsilon λc=>(∀b,A b=A a->Q b c)/\mT P cx f (A a) c,λa b d=>by grind⟩
section
variable {P:ai}{cx:Ctx}{f:aj}{α:Type}{A:α->List T}{pre:α->Prop}{Q:α->T->Prop}
theorem PE(e:∀a b,A a=A b->a=b){a:α}(g:∃c,Q a c/\mT P cx f (A a) c):Q a ((wR P cx f A pre Q).R a)/\mT P cx f (A a) ((wR P cx f A pre Q).R a):=by
 have d:∃c,(∀b,A b=A a->Q b c)/\mT P cx f (A a) c:=by
  grind
 have:=Classical.epsilon_spec d;exact⟨this.1 a rfl,this.2⟩
theorem aez(d:∀a b,A a=A b->a=b)(g:∀a,pre a->∃c,Q a c/\mT P cx f (A a) c):(wR P cx f A pre Q).Ok P cx f:=λa e=>(PE d (g a e)).2
def yF{tb:ik}{c:Func}{M:Nat}{dl:DL}(i:P.follows .mixedOrders)(j9:jP P cx)(l:H6 P cx f c M dl)(n:α->Nat)(o:∀a d,A a=A d->a=d)(hl:∀a,nR (A a))(j:∀a,(A a).length<=c.ntmps)
 (k:∀a,pre a->∀g,oZ g 0 (A a)->W (kw cx (rY P cx tb) (n a) M dl (c.body.getD .skip) ⟨g,.nil⟩ hE) (CJ cx M c.results.toList λm e=>∃b,Q a b/\Pz e m b)):(wR P cx f A pre Q).Ok P cx f/\∀a,pre a->Q a ((wR P cx f A pre Q).R a):=by
 have e:∀a,pre a->∃b,Q a b/\mT P cx f (A a) b:=λa h=>abb i j9 l (HJ P cx tb) (hl a) (j a) (n a) (k a h)
 grind [PE,aez]
def pI(P:ai)(cx:Ctx)(f:aj)(A:α->List T)(pre:α->Prop)(Q:α->T->Prop):Prop:=(wR P cx f A pre Q).Ok P cx f/\∀a,pre a->Q a ((wR P cx f A pre Q).R a)
def Fi(d:α->Nat)(step:∀c,pI P cx f A (λa=>pre a/\d a<c) Q->pI P cx f A (λa=>pre a/\d a<c+1) Q):pI P cx f A pre Q:=by
 have e:∀c,pI P cx f A (λa=>pre a/\d a<c) Q:=by
  intro c;induction c with
  |zero=>exact⟨λa b=>absurd b.2 (Nat.not_lt_zero _),λa b=>absurd b.2 (Nat.not_lt_zero _)⟩
  |succ c g=>simp_all
 exact⟨λa b=>(e (d a+1)).1 a ⟨b,dA _⟩,λa b=>(e (d a+1)).2 a ⟨b,dA _⟩⟩
end
def SD(b:Prop)(c:T):Prop:=∃a,c= .ej a/\(a->b)
@[simp]def ad8 (b:Prop) (a:Bool):SD b (.ej a)=(a->b):=by unfold SD;apply propext;constructor;simp;simp
@[simp]def agP (a:Bool):E8 (.ej a)=True:=by simp[E8]
end
end
end Go.TI
namespace Go.Proofs.YtnfojkibhgjfmaaGreatDoor
noncomputable section
open Go Go.TI Tryz
def iz(d:List (aj×iE)){b:iE}{g:aj}{c:Func}{e:Nat}{f:DL}(m:H6 prog cx g c e f)(h:b.α->Nat)(hl:∀a,nR (b.A a))
 (l:∀a,b.pre a->∀i,oZ i 0 (b.A a)->W (kw cx (rY prog cx ⟨pt d,ht []⟩) (h a) e f (c.body.getD .skip) ⟨i,.nil⟩ hE) (CJ cx e c.results.toList λd j=>Pz j d (b.R a)))
 (k:∀a,ar (b.A a).length c.ntmps=true:=by intro _;rfl):b.Ok prog cx g:=yW (tb:=⟨pt d,ht []⟩) jk iX m h hl (λa=>bG (k a)) l
def j2(d:List (aj×iE)){e:Type}{b:e->List T}{l:e->Prop}{g:e->T->Prop}{j:aj}{c:Func}{f:Nat}{i:DL}(s:H6 prog cx j c f i)(k:e->Nat)(p:∀a h,b a=b h->a=h)
 (r:∀a,l a->∀n,oZ n 0 (b a)->W (kw cx (rY prog cx ⟨pt d,ht []⟩) (k a) f i (c.body.getD .skip) ⟨n,.nil⟩ hE) (CJ cx f c.results.toList λd o=>∃m,g a m/\Pz o d m))
 (hl:∀a,nR (b a)=true:=by simp) (q:∀a,ar (b a).length c.ntmps=true:=by intro _;rfl):pI prog cx j b l g:=yF (tb:=⟨pt d,ht []⟩) jk iX s k p hl (λa=>bG (q a)) r
structure ji where
 name:List Nat
 index:Int
 size:Int
 B5:Bool
 kH:Int
 deriving DecidableEq,Inhabited
@[simp] def ji.cs (a:ji):List T:=[.str a.name,J a.index,J a.size,.ej a.B5,J a.kH]
def ji.t(a:ji):T:= .eQ a.cs
@[simp]def ji.ag (a:ji):sP a.t a.cs 5:=EZ
@[simp]theorem ji.fold (a0 a1 a2 a3 a4):T.eQ [.str a0,J a1,J a2,.ej a3,J a4]=ji.t ⟨a0,a1,a2,a3,a4⟩:=rfl
@[simp]theorem ji.eta (a:ji):⟨a.1,a.2,a.3,a.4,a.5⟩=a:=rfl
def ji.inj{a b:ji}(c:a.t=b.t):a=b:=by cases a;cases b;simp[ji.t,ji.cs,-ji.fold]at c;simp[c]
def ji.uf:= @qv _ _ λ(_ _:ji)=>ji.inj
structure jB where
 name:List Nat
 rW:Bool
 deriving DecidableEq,Inhabited
@[simp] def jB.cs (a:jB):List T:=[.str a.name,.ej a.rW]
def jB.t(a:jB):T:= .eQ a.cs
@[simp]def jB.ag (a:jB):sP a.t a.cs 2:=EZ
@[simp]theorem jB.fold (a0 a1):T.eQ [.str a0,.ej a1]=jB.t ⟨a0,a1⟩:=rfl
@[simp]theorem jB.eta (a:jB):⟨a.1,a.2⟩=a:=rfl
def jB.inj{a b:jB}(c:a.t=b.t):a=b:=by cases a;cases b;simp[jB.t,jB.cs,-jB.fold]at c;simp[c]
def jB.uf:= @qv _ _ λ(_ _:jB)=>jB.inj
structure j7 where
 name:List Nat
 mN:Int
 deriving DecidableEq,Inhabited
@[simp] def j7.cs (a:j7):List T:=[.str a.name,J a.mN]
def j7.t(a:j7):T:= .eQ a.cs
@[simp]def j7.ag (a:j7):sP a.t a.cs 2:=EZ
@[simp]theorem j7.fold (a0 a1):T.eQ [.str a0,J a1]=j7.t ⟨a0,a1⟩:=rfl
@[simp]theorem j7.eta (a:j7):⟨a.1,a.2⟩=a:=rfl
def j7.inj{a b:j7}(c:a.t=b.t):a=b:=by cases a;cases b;simp[j7.t,j7.cs,-j7.fold]at c;simp[c]
def j7.uf:= @qv _ _ λ(_ _:j7)=>j7.inj
structure jE where
 eG:Int
 stmt:Int
 DX:Int
 deriving DecidableEq,Inhabited
@[simp] def jE.cs (a:jE):List T:=[J a.eG,J a.stmt,J a.DX]
def jE.t(a:jE):T:= .eQ a.cs
@[simp]def jE.ag (a:jE):sP a.t a.cs 3:=EZ
@[simp]theorem jE.fold (a0 a1 a2):T.eQ [J a0,J a1,J a2]=jE.t ⟨a0,a1,a2⟩:=rfl
@[simp]theorem jE.eta (a:jE):⟨a.1,a.2,a.3⟩=a:=rfl
def jE.inj{a b:jE}(c:a.t=b.t):a=b:=by cases a;cases b;simp[jE.t,jE.cs,-jE.fold]at c;simp[c]
def jE.uf:= @qv _ _ λ(_ _:jE)=>jE.inj
structure fJ where
 cells:List ji
 fQ:List jB
 je:List j7
 fI:List (List Nat)
 d8:List (List Nat)
 jL:List jE
 deriving DecidableEq,Inhabited
@[simp] def fJ.cs (a:fJ):List T:=[sl (a.cells.map ji.t),sl (a.fQ.map jB.t),sl (a.je.map j7.t),sl (a.fI.map T.str),sl (a.d8.map T.str),sl (a.jL.map jE.t)]
def fJ.t(a:fJ):T:= .eQ a.cs
@[simp]def fJ.ag (a:fJ):sP a.t a.cs 6:=EZ
@[simp]theorem fJ.fold (a0:List ji) (a1:List jB) (a2:List j7) (a3 a4:List (List Nat)) (a5:List jE):T.eQ [sl (a0.map ji.t),sl (a1.map jB.t),sl (a2.map j7.t),sl (a3.map T.str),sl (a4.map T.str),sl (a5.map jE.t)]=fJ.t ⟨a0,a1,a2,a3,a4,a5⟩:=rfl
@[simp]theorem fJ.eta (a:fJ):⟨a.1,a.2,a.3,a.4,a.5,a.6⟩=a:=rfl
def fJ.inj{a b:fJ}(c:a.t=b.t):a=b:=by cases a;cases b;simp[fJ.t,fJ.cs,ji.uf,j7.uf,jB.uf,jE.uf,slS,-fJ.fold]at c;simp[c]
structure fk where
 jY:Int
 fZ:List Int
 deriving DecidableEq,Inhabited
@[simp] def fk.cs (a:fk):List T:=[J a.jY,sl (a.fZ.map (T.int .i64))]
def fk.t(a:fk):T:= .eQ a.cs
@[simp]def fk.ag (a:fk):sP a.t a.cs 2:=EZ
@[simp]theorem fk.fold (a0:Int) (a1:List Int):T.eQ [J a0,sl (a1.map (T.int .i64))]=fk.t ⟨a0,a1⟩:=rfl
@[simp]theorem fk.eta (a:fk):⟨a.1,a.2⟩=a:=rfl
def fk.inj{a b:fk}(c:a.t=b.t):a=b:=by cases a;cases b;simp[fk.t,fk.cs,XR,-fk.fold]at c;simp[c]
def fk.uf:= @qv _ _ λ(_ _:fk)=>fk.inj
structure ew where
 jq:Int
 cond:Int
 atomic:Bool
 deriving DecidableEq,Inhabited
@[simp] def ew.cs (a:ew):List T:=[J a.jq,J a.cond,.ej a.atomic]
def ew.t(a:ew):T:= .eQ a.cs
@[simp]def ew.ag (a:ew):sP a.t a.cs 3:=EZ
@[simp]theorem ew.fold (a0 a1 a2):T.eQ [J a0,J a1,.ej a2]=ew.t ⟨a0,a1,a2⟩:=rfl
@[simp]theorem ew.eta (a:ew):⟨a.1,a.2,a.3⟩=a:=rfl
def ew.inj{a b:ew}(c:a.t=b.t):a=b:=by cases a;cases b;simp[ew.t,ew.cs,-ew.fold]at c;simp[c]
def ew.uf:= @qv _ _ λ(_ _:ew)=>ew.inj
structure iq where
 fQ:List fk
 tx:Int
 done:List Bool
 d8:List ew
 deriving DecidableEq,Inhabited
@[simp] def iq.cs (a:iq):List T:=[sl (a.fQ.map fk.t),J a.tx,sl (a.done.map T.ej),sl (a.d8.map ew.t)]
def iq.t(a:iq):T:= .eQ a.cs
@[simp]def iq.ag (a:iq):sP a.t a.cs 4:=EZ
@[simp]theorem iq.fold (a0:List fk) (a1:Int) (a2:List Bool) (a3:List ew):T.eQ [sl (a0.map fk.t),J a1,sl (a2.map T.ej),sl (a3.map ew.t)]=iq.t ⟨a0,a1,a2,a3⟩:=rfl
@[simp]theorem iq.eta (a:iq):⟨a.1,a.2,a.3,a.4⟩=a:=rfl
def iq.inj{a b:iq}(c:a.t=b.t):a=b:=by cases a;cases b;simp[iq.t,iq.cs,fk.uf,ew.uf,slB,-iq.fold]at c;simp[c]
def iq.uf:= @qv _ _ λ(_ _:iq)=>iq.inj
structure gh where
 gH:iq
 cells:List Int
 fI:List Int
 count:List Int
 deriving DecidableEq,Inhabited
@[simp] def gh.cs (a:gh):List T:=[sl (a.gH.fQ.map fk.t),J a.gH.tx,sl (a.gH.done.map T.ej),sl (a.gH.d8.map ew.t),sl (a.cells.map (T.int .i64)),sl (a.fI.map (T.int .i64)),sl (a.count.map (T.int .i64))]
def gh.t(a:gh):T:= .eQ a.cs
@[simp]def gh.ag (a:gh):sP a.t a.cs 7:=EZ
@[simp]theorem gh.fold (a0:List fk) (a1:Int) (a2:List Bool) (a3:List ew) (a4 a5 a6:List Int):T.eQ [sl (a0.map fk.t),J a1,sl (a2.map T.ej),sl (a3.map ew.t),sl (a4.map (T.int .i64)),sl (a5.map (T.int .i64)),sl (a6.map (T.int .i64))]=gh.t ⟨⟨a0,a1,a2,a3⟩,a4,a5,a6⟩:=rfl
@[simp]theorem gh.eta (a:gh):⟨a.1,a.2,a.3,a.4⟩=a:=rfl
def gh.inj{a b:gh}(c:a.t=b.t):a=b:=by rcases a with⟨⟨_,_,_,_⟩,_,_,_⟩;rcases b with⟨⟨_,_,_,_⟩,_,_,_⟩;simp[gh.t,gh.cs,fk.uf,ew.uf,slB,XR,-gh.fold]at c;simp[c]
structure fR where
 eG:Int
 fc:Int
 obj:Int
 value:Int
 ke:Int
 nH:List Int
 vU:List Int
 deriving DecidableEq,Inhabited
@[simp] def fR.cs (a:fR):List T:=[J a.eG,J a.fc,J a.obj,J a.value,J a.ke,sl (a.nH.map (T.int .i64)),sl (a.vU.map (T.int .i64))]
def fR.t(a:fR):T:= .eQ a.cs
@[simp]def fR.ag (a:fR):sP a.t a.cs 7:=EZ
@[simp]theorem fR.fold (a0 a1 a2 a3 a4:Int) (a5 a6:List Int):T.eQ [J a0,J a1,J a2,J a3,J a4,sl (a5.map (T.int .i64)),sl (a6.map (T.int .i64))]=fR.t ⟨a0,a1,a2,a3,a4,a5,a6⟩:=rfl
@[simp]theorem fR.eta (a:fR):⟨a.1,a.2,a.3,a.4,a.5,a.6,a.7⟩=a:=rfl
def fR.inj{a b:fR}(c:a.t=b.t):a=b:=by cases a;cases b;simp[fR.t,fR.cs,XR,-fR.fold]at c;simp[c]
def fR.uf:= @qv _ _ λ(_ _:fR)=>fR.inj
structure eJ where
 gG:fJ
 start:Int
 kH:gh
 ei:List fR
 deriving DecidableEq,Inhabited
@[simp] def eJ.cs (a:eJ):List T:=[sl (a.gG.cells.map ji.t),sl (a.gG.fQ.map jB.t),sl (a.gG.je.map j7.t),sl (a.gG.fI.map T.str),sl (a.gG.d8.map T.str),sl (a.gG.jL.map jE.t),J a.start,sl (a.kH.gH.fQ.map fk.t),J a.kH.gH.tx,sl (a.kH.gH.done.map T.ej),sl (a.kH.gH.d8.map ew.t),sl (a.kH.cells.map (T.int .i64)),sl (a.kH.fI.map (T.int .i64)),sl (a.kH.count.map (T.int .i64)),sl (a.ei.map fR.t)]
def eJ.t(a:eJ):T:= .eQ a.cs
@[simp]def eJ.ag (a:eJ):sP a.t a.cs 15:=EZ
@[simp]theorem eJ.fold (a0:List ji) (a1:List jB) (a2:List j7) (a3 a4:List (List Nat)) (a5:List jE) (a6:Int) (f:List fk) (g:Int) (h:List Bool) (a:List ew) (b c d:List Int) (e:List fR):T.eQ [sl (a0.map ji.t),sl (a1.map jB.t),sl (a2.map j7.t),sl (a3.map T.str),sl (a4.map T.str),sl (a5.map jE.t),J a6,sl (f.map fk.t),J g,sl (h.map T.ej),sl (a.map ew.t),sl (b.map (T.int .i64)),sl (c.map (T.int .i64)),sl (d.map (T.int .i64)),sl (e.map fR.t)]=eJ.t ⟨⟨a0,a1,a2,a3,a4,a5⟩,a6,⟨⟨f,g,h,a⟩,b,c,d⟩,e⟩:=rfl
@[simp]theorem eJ.eta (a:eJ):⟨a.1,a.2,a.3,a.4⟩=a:=rfl
def eJ.inj{a b:eJ}(c:a.t=b.t):a=b:=by rcases a with⟨⟨_,_,_,_,_,_⟩,_,⟨⟨_,_,_,_⟩,_,_,_⟩,_⟩;rcases b with⟨⟨_,_,_,_,_,_⟩,_,⟨⟨_,_,_,_⟩,_,_,_⟩,_⟩;simp[eJ.t,eJ.cs,ji.uf,j7.uf,fR.uf,jB.uf,fk.uf,jE.uf,ew.uf,slB,XR,slS,-eJ.fold]at c;simp[c]
structure iw where
 fc:Int
 a:Int
 b:Int
 c:Int
 d:Int
 jo:List Int
 deriving DecidableEq,Inhabited
@[simp] def iw.cs (e:iw):List T:=[J e.fc,J e.a,J e.b,J e.c,J e.d,sl (e.jo.map (T.int .i64))]
def iw.t(a:iw):T:= .eQ a.cs
@[simp]def iw.ag (a:iw):sP a.t a.cs 6:=EZ
@[simp]theorem iw.fold (a0 a1 a2 a3 a4:Int) (a5:List Int):T.eQ [J a0,J a1,J a2,J a3,J a4,sl (a5.map (T.int .i64))]=iw.t ⟨a0,a1,a2,a3,a4,a5⟩:=rfl
@[simp]theorem iw.eta (a:iw):⟨a.1,a.2,a.3,a.4,a.5,a.6⟩=a:=rfl
def iw.inj{a b:iw}(c:a.t=b.t):a=b:=by cases a;cases b;simp[iw.t,iw.cs,XR,-iw.fold]at c;simp[c]
structure lZ where
 gG:fJ
 ei:List fR
 deriving DecidableEq,Inhabited
@[simp] def lZ.cs (a:lZ):List T:=[sl (a.gG.cells.map ji.t),sl (a.gG.fQ.map jB.t),sl (a.gG.je.map j7.t),sl (a.gG.fI.map T.str),sl (a.gG.d8.map T.str),sl (a.gG.jL.map jE.t),sl (a.ei.map fR.t)]
def lZ.t(a:lZ):T:= .eQ a.cs
@[simp]def lZ.ag (a:lZ):sP a.t a.cs 7:=EZ
@[simp]theorem lZ.fold (a0:List ji) (a1:List jB) (a2:List j7) (a3 a4:List (List Nat)) (a5:List jE) (a6:List fR):T.eQ [sl (a0.map ji.t),sl (a1.map jB.t),sl (a2.map j7.t),sl (a3.map T.str),sl (a4.map T.str),sl (a5.map jE.t),sl (a6.map fR.t)]=lZ.t ⟨⟨a0,a1,a2,a3,a4,a5⟩,a6⟩:=rfl
@[simp]theorem lZ.eta (a:lZ):⟨a.1,a.2⟩=a:=rfl
def lZ.inj{a b:lZ}(c:a.t=b.t):a=b:=by rcases a with⟨⟨_,_,_,_,_,_⟩,_⟩;rcases b with⟨⟨_,_,_,_,_,_⟩,_⟩;simp[lZ.t,lZ.cs,ji.uf,j7.uf,fR.uf,jB.uf,jE.uf,slS,-lZ.fold]at c;simp[c]
structure iC where
 w:eJ
 NI:List iq
 deriving DecidableEq,Inhabited
@[simp] def iC.cs (a:iC):List T:=[sl (a.w.gG.cells.map ji.t),sl (a.w.gG.fQ.map jB.t),sl (a.w.gG.je.map j7.t),sl (a.w.gG.fI.map T.str),sl (a.w.gG.d8.map T.str),sl (a.w.gG.jL.map jE.t),J a.w.start,sl (a.w.kH.gH.fQ.map fk.t),J a.w.kH.gH.tx,sl (a.w.kH.gH.done.map T.ej),sl (a.w.kH.gH.d8.map ew.t),sl (a.w.kH.cells.map (T.int .i64)),sl (a.w.kH.fI.map (T.int .i64)),sl (a.w.kH.count.map (T.int .i64)),sl (a.w.ei.map fR.t),sl (a.NI.map iq.t)]
def iC.t(a:iC):T:= .eQ a.cs
@[simp]def iC.ag (a:iC):sP a.t a.cs 16:=EZ
@[simp]theorem iC.fold (a0:List ji) (a1:List jB) (a2:List j7) (a3 a4:List (List Nat)) (a5:List jE) (a6:Int) (g:List fk) (h:Int) (i:List Bool) (a:List ew) (b c d:List Int) (e:List fR) (f:List iq):T.eQ [sl (a0.map ji.t),sl (a1.map jB.t),sl (a2.map j7.t),sl (a3.map T.str),sl (a4.map T.str),sl (a5.map jE.t),J a6,sl (g.map fk.t),J h,sl (i.map T.ej),sl (a.map ew.t),sl (b.map (T.int .i64)),sl (c.map (T.int .i64)),sl (d.map (T.int .i64)),sl (e.map fR.t),sl (f.map iq.t)]=iC.t ⟨⟨⟨a0,a1,a2,a3,a4,a5⟩,a6,⟨⟨g,h,i,a⟩,b,c,d⟩,e⟩,f⟩:=rfl
@[simp]theorem iC.eta (a:iC):⟨a.1,a.2⟩=a:=rfl
def iC.inj{a b:iC}(c:a.t=b.t):a=b:=by rcases a with⟨⟨⟨_,_,_,_,_,_⟩,_,⟨⟨_,_,_,_⟩,_,_,_⟩,_⟩,_⟩;rcases b with⟨⟨⟨_,_,_,_,_,_⟩,_,⟨⟨_,_,_,_⟩,_,_,_⟩,_⟩,_⟩;simp[iC.t,iC.cs,ji.uf,j7.uf,fR.uf,jB.uf,fk.uf,jE.uf,iq.uf,ew.uf,slB,XR,slS,-iC.fold]at c;simp[c]
structure iN where
 op:Int
 a:Int
 b:Int
 c:Int
 n:Int
 ke:Int
 deriving DecidableEq,Inhabited
@[simp] def iN.cs (d:iN):List T:=[J d.op,J d.a,J d.b,J d.c,J d.n,J d.ke]
def iN.t(a:iN):T:= .eQ a.cs
@[simp]def iN.ag (a:iN):sP a.t a.cs 6:=EZ
@[simp]theorem iN.fold (a0 a1 a2 a3 a4 a5):T.eQ [J a0,J a1,J a2,J a3,J a4,J a5]=iN.t ⟨a0,a1,a2,a3,a4,a5⟩:=rfl
@[simp]theorem iN.eta (a:iN):⟨a.1,a.2,a.3,a.4,a.5,a.6⟩=a:=rfl
def iN.inj{a b:iN}(c:a.t=b.t):a=b:=by cases a;cases b;simp[iN.t,iN.cs,-iN.fold]at c;simp[c]
def iN.uf:= @qv _ _ λ(_ _:iN)=>iN.inj
structure iR where
 j1:Int
 kh:List iN
 deriving DecidableEq,Inhabited
@[simp] def iR.cs (a:iR):List T:=[J a.j1,sl (a.kh.map iN.t)]
def iR.t(a:iR):T:= .eQ a.cs
@[simp]def iR.ag (a:iR):sP a.t a.cs 2:=EZ
@[simp]theorem iR.fold (a0:Int) (a1:List iN):T.eQ [J a0,sl (a1.map iN.t)]=iR.t ⟨a0,a1⟩:=rfl
@[simp]theorem iR.eta (a:iR):⟨a.1,a.2⟩=a:=rfl
def iR.inj{a b:iR}(c:a.t=b.t):a=b:=by cases a;cases b;simp[iR.t,iR.cs,iN.uf,-iR.fold]at c;simp[c]
def iR.uf:= @qv _ _ λ(_ _:iR)=>iR.inj
structure kU where
 gG:fJ
 d8:List iR
 deriving DecidableEq,Inhabited
@[simp] def kU.cs (a:kU):List T:=[sl (a.gG.cells.map ji.t),sl (a.gG.fQ.map jB.t),sl (a.gG.je.map j7.t),sl (a.gG.fI.map T.str),sl (a.gG.d8.map T.str),sl (a.gG.jL.map jE.t),sl (a.d8.map iR.t)]
def kU.t(a:kU):T:= .eQ a.cs
@[simp]def kU.ag (a:kU):sP a.t a.cs 7:=EZ
@[simp]theorem kU.fold (a0:List ji) (a1:List jB) (a2:List j7) (a3 a4:List (List Nat)) (a5:List jE) (a6:List iR):T.eQ [sl (a0.map ji.t),sl (a1.map jB.t),sl (a2.map j7.t),sl (a3.map T.str),sl (a4.map T.str),sl (a5.map jE.t),sl (a6.map iR.t)]=kU.t ⟨⟨a0,a1,a2,a3,a4,a5⟩,a6⟩:=rfl
@[simp]theorem kU.eta (a:kU):⟨a.1,a.2⟩=a:=rfl
def kU.inj{a b:kU}(c:a.t=b.t):a=b:=by rcases a with⟨⟨_,_,_,_,_,_⟩,_⟩;rcases b with⟨⟨_,_,_,_,_,_⟩,_⟩;simp[kU.t,kU.cs,ji.uf,j7.uf,jB.uf,jE.uf,iR.uf,slS,-kU.fold]at c;simp[c]
structure gu where
 pC:Int
 j1:List Int
 lP:List (List Int)
 ei:Int
 deriving DecidableEq,Inhabited
@[simp] def gu.cs (a:gu):List T:=[J a.pC,sl (a.j1.map (T.int .i64)),sl (a.lP.map (λb=>sl (b.map (T.int .i64)))),J a.ei]
def gu.t(a:gu):T:= .eQ a.cs
@[simp]def gu.ag (a:gu):sP a.t a.cs 4:=EZ
@[simp]theorem gu.fold (a0:Int) (a1:List Int) (a2:List (List Int)) (a3:Int):T.eQ [J a0,sl (a1.map (T.int .i64)),sl (a2.map (λa=>sl (a.map (T.int .i64)))),J a3]=gu.t ⟨a0,a1,a2,a3⟩:=rfl
@[simp]theorem gu.eta (a:gu):⟨a.1,a.2,a.3,a.4⟩=a:=rfl
def gu.inj{a b:gu}(c:a.t=b.t):a=b:=by rcases a with⟨_,_,_,_⟩;rcases b with⟨_,_,_,_⟩;simp only[gu.t,gu.cs,T.eQ.injEq,cr]at c;obtain⟨d,e,f,g,_⟩:=c;obtain rfl:=Hc d;obtain rfl:=F4 (λ_ _=>Hc) _ _ e;obtain rfl:=F4 (F4 (λ_ _=>Hc)) _ _ f;obtain rfl:=Hc g;rfl
def gu.uf:= @qv _ _ λ(_ _:gu)=>gu.inj
structure jH where
 gH:iq
 cells:List Int
 fI:List Int
 d8:List gu
 deriving DecidableEq,Inhabited
@[simp] def jH.cs (a:jH):List T:=[sl (a.gH.fQ.map fk.t),J a.gH.tx,sl (a.gH.done.map T.ej),sl (a.gH.d8.map ew.t),sl (a.cells.map (T.int .i64)),sl (a.fI.map (T.int .i64)),sl (a.d8.map gu.t)]
def jH.t(a:jH):T:= .eQ a.cs
@[simp]def jH.ag (a:jH):sP a.t a.cs 7:=EZ
@[simp]theorem jH.fold (a0:List fk) (a1:Int) (a2:List Bool) (a3:List ew) (a4 a5:List Int) (a6:List gu):T.eQ [sl (a0.map fk.t),J a1,sl (a2.map T.ej),sl (a3.map ew.t),sl (a4.map (T.int .i64)),sl (a5.map (T.int .i64)),sl (a6.map gu.t)]=jH.t ⟨⟨a0,a1,a2,a3⟩,a4,a5,a6⟩:=rfl
@[simp]theorem jH.eta (a:jH):⟨a.1,a.2,a.3,a.4⟩=a:=rfl
def jH.inj{a b:jH}(c:a.t=b.t):a=b:=by rcases a with⟨⟨_,_,_,_⟩,_,_,_⟩;rcases b with⟨⟨_,_,_,_⟩,_,_,_⟩;simp[jH.t,jH.cs,fk.uf,gu.uf,ew.uf,slB,XR,-jH.fold]at c;simp[c]
structure io where
 eG:Int
 qW:Int
 deriving DecidableEq,Inhabited
@[simp] def io.cs (a:io):List T:=[J a.eG,J a.qW]
def io.t(a:io):T:= .eQ a.cs
@[simp]def io.ag (a:io):sP a.t a.cs 2:=EZ
@[simp]theorem io.fold (a0 a1):T.eQ [J a0,J a1]=io.t ⟨a0,a1⟩:=rfl
@[simp]theorem io.eta (a:io):⟨a.1,a.2⟩=a:=rfl
def io.inj{a b:io}(c:a.t=b.t):a=b:=by cases a;cases b;simp[io.t,io.cs,-io.fold]at c;simp[c]
structure jp where
 fc:Int
 DX:Int
 name:List Nat
 size:Int
 kH:Int
 on:List Nat
 deriving DecidableEq,Inhabited
@[simp] def jp.cs (a:jp):List T:=[J a.fc,J a.DX,.str a.name,J a.size,J a.kH,.str a.on]
def jp.t(a:jp):T:= .eQ a.cs
@[simp]def jp.ag (a:jp):sP a.t a.cs 6:=EZ
@[simp]theorem jp.fold (a0 a1 a2 a3 a4 a5):T.eQ [J a0,J a1,.str a2,J a3,J a4,.str a5]=jp.t ⟨a0,a1,a2,a3,a4,a5⟩:=rfl
@[simp]theorem jp.eta (a:jp):⟨a.1,a.2,a.3,a.4,a.5,a.6⟩=a:=rfl
def jp.inj{a b:jp}(c:a.t=b.t):a=b:=by cases a;cases b;simp[jp.t,jp.cs,-jp.fold]at c;simp[c]
structure im where
 value:Int
 known:Bool
 deriving DecidableEq,Inhabited
@[simp] def im.cs (a:im):List T:=[J a.value,.ej a.known]
def im.t(a:im):T:= .eQ a.cs
@[simp]def im.ag (a:im):sP a.t a.cs 2:=EZ
@[simp]theorem im.fold (a0 a1):T.eQ [J a0,.ej a1]=im.t ⟨a0,a1⟩:=rfl
@[simp]theorem im.eta (a:im):⟨a.1,a.2⟩=a:=rfl
def im.inj{a b:im}(c:a.t=b.t):a=b:=by cases a;cases b;simp[im.t,im.cs,-im.fold]at c;simp[c]
def im.uf:= @qv _ _ λ(_ _:im)=>im.inj
structure fK where
 gH:iq
 cells:List im
 fI:List im
 order:List Int
 fixed:List Bool
 qV:List Int
 deriving DecidableEq,Inhabited
@[simp] def fK.cs (a:fK):List T:=[sl (a.gH.fQ.map fk.t),J a.gH.tx,sl (a.gH.done.map T.ej),sl (a.gH.d8.map ew.t),sl (a.cells.map im.t),sl (a.fI.map im.t),sl (a.order.map (T.int .i64)),sl (a.fixed.map T.ej),sl (a.qV.map (T.int .i64))]
def fK.t(a:fK):T:= .eQ a.cs
@[simp]def fK.ag (a:fK):sP a.t a.cs 9:=EZ
@[simp]theorem fK.fold (a0:List fk) (a1:Int) (a2:List Bool) (a3:List ew) (a4 a5:List im) (a6:List Int) (a:List Bool) (b:List Int):T.eQ [sl (a0.map fk.t),J a1,sl (a2.map T.ej),sl (a3.map ew.t),sl (a4.map im.t),sl (a5.map im.t),sl (a6.map (T.int .i64)),sl (a.map T.ej),sl (b.map (T.int .i64))]=fK.t ⟨⟨a0,a1,a2,a3⟩,a4,a5,a6,a,b⟩:=rfl
@[simp]theorem fK.eta (a:fK):⟨a.1,a.2,a.3,a.4,a.5,a.6⟩=a:=rfl
def fK.inj{a b:fK}(c:a.t=b.t):a=b:=by rcases a with⟨⟨_,_,_,_⟩,_,_,_,_,_⟩;rcases b with⟨⟨_,_,_,_⟩,_,_,_,_,_⟩;simp[fK.t,fK.cs,im.uf,fk.uf,ew.uf,slB,XR,-fK.fold]at c;simp[c]
def jx(a:Int)(b:Nat):Bool:=decide (0<=a/\a<b)
def wU{b:Type}(c:List b)(a:Int):aa b:=if 0<=a then c[a.toNat]? else none
def fT{a:Int}{b:Nat}:jx a b↔0<=a/\a.toNat<b:=by unfold jx;simp;omega
def sw{a:Int}{c:Nat}(b:jx a c=false):¬(0<=a/\a.toNat<c):=λd=>by rw[fT.2 d]at b;simp at b
def jm{e:Type}{l:List e}{i:Int}(c:jx i l.length):∃b,l[i.toNat]? =D b/\wU l i=D b:=by have⟨d,a⟩:=fT.1 c;exact⟨l[i.toNat],by simp[a],by simp[wU,d,a]⟩
def pT{d:Type}{b:List d}{a:Int}(c:jx a b.length=false):wU b a=none:=by have:=sw c;unfold wU;split;simp;omega;rfl
def m9(a:fJ)(b:iq):Bool:=(a.je.all λc=>jx c.mN a.fQ.length)&&decide (b.fQ.length=a.fQ.length)&&decide (b.done.length=a.fI.length)&&decide (b.d8.length=a.d8.length)
def ky(c:fJ)(a b:Int):Bool:=
 if a=1\/a=2\/a=5\/a=12\/a=13\/a=14\/a=15 then decide (b=-1)
 else if a=3\/a=4 then jx b c.cells.length
 else if a=6\/a=7 then(match wU c.fQ b with|some d=> !d.rW|none=>false)
 else if a=8\/a=9\/a=10\/a=11 then(match wU c.fQ b with|some d=>d.rW|none=>false)
 else if a=16\/a=17\/a=18\/a=19 then jx b c.je.length
 else if a=20\/a=21 then jx b c.d8.length
 else if a=22\/a=23 then jx b c.fI.length
 else false
def jh(a:Int):List ew->Nat->List Int
 | [],_=>[]
 |t::c,b=>if t.jq=3/\t.cond=a then(b:Int)::jh a c (b+1)else jh a c (b+1)
def oX(b:iq)(a:Int):fk:=(wU b.fQ a).getD default
def pW(b:iq)(a:Int):ew:=(wU b.d8 a).getD default
def vI(c:fJ)(b:iq)(a:Int):fk:=oX b ((wU c.je a).getD default).mN
def HD(b:iq)(a:Int):Bool:=(wU b.done a).getD false
def B0(e:fJ)(a:iq)(d b c:Int):Bool:=
 if b=1 then decide ((pW a d).jq=1)
 else if b=17 then decide ((pW a d).jq=4)&&decide ((pW a d).cond=c)&&decide ((vI e a c).jY=-1)
 else if¬(pW a d).jq=2 then false
 else if b=6 then decide ((oX a c).jY=-1)
 else if b=10 then decide ((oX a c).jY=-1)&&decide ((oX a c).fZ=[])
 else if b=8 then decide ((oX a c).jY=-1)&& !decide (d∈(oX a c).fZ)
 else if b=7\/b=11 then decide ((oX a c).jY=d)
 else if b=9 then decide (d∈(oX a c).fZ)
 else if b=12 then decide (a.tx=-1)
 else if b=13 then decide (a.tx=d)
 else if b=14 then !(pW a d).atomic
 else if b=15 then(pW a d).atomic
 else if b=16\/b=18\/b=19 then decide ((vI e a c).jY=d)
 else if b=20 then !decide (c=d)&&decide ((pW a c).jq=0)
 else if b=21 then !decide (c=d)&&decide ((pW a c).jq=5)
 else if b=22 then !HD a c
 else if b=23 then HD a c
 else true
def jM(a:fJ)(d:iq)(e b c:Int):Bool:=m9 a d&&jx e a.d8.length&&ky a b c&&B0 a d e b c
def oN{c:fJ}{b:iq}(a:m9 c b):b.fQ.length=c.fQ.length/\b.done.length=c.fI.length/\b.d8.length=c.d8.length:=by unfold m9 at a;simp at a;exact⟨a.1.1.2,a.1.2,a.2⟩
def vH{c:fJ}{f:iq}(b:m9 c f){e:Nat}{a:j7}(d:c.je[e]? =D a):jx a.mN c.fQ.length=true:=by unfold m9 at b;simp at b;exact b.1.1.1 a (aD d)
def xu{d:fJ}{a c:Int}(b:ky d a c):a=1\/a=2\/a=3\/a=4\/a=5\/a=12\/a=13\/a=14\/a=15\/(a=6\/a=7\/a=8\/a=9\/a=10\/a=11)\/(a=16\/a=17\/a=18\/a=19)\/(a=20\/a=21)\/(a=22\/a=23):=by by_cases e:1<=a/\a<=23;omega;exfalso;unfold ky at b;rw[aw G,aw G,aw G,aw G,aw G,aw G,aw G]at b;simp at b
def mM{d:fJ}{a c:Int}(b:ky d a c)(e:a=6\/a=7\/a=8\/a=9\/a=10\/a=11):jx c d.fQ.length=true:=by
 cases hl:jx c d.fQ.length;unfold ky at b;rw[aw G,aw G]at b;rcases e with rfl|rfl|rfl|rfl|rfl|rfl<;>simp[pT hl]at b
 rfl
def qC{d:fJ}{a c:Int}(b:ky d a c)(e:a=16\/a=17\/a=18\/a=19):jx c d.je.length=true:=by unfold ky at b;rwa[aw G,aw G,aw G,aw G,ax e]at b
def AG{d:fJ}{a c:Int}(b:ky d a c)(e:a=20\/a=21):jx c d.d8.length=true:=by unfold ky at b;rwa[aw G,aw G,aw G,aw G,aw G,ax e]at b
def uQ{d:fJ}{a c:Int}(b:ky d a c)(e:a=22\/a=23):jx c d.fI.length=true:=by unfold ky at b;rwa[aw G,aw G,aw G,aw G,aw G,aw G,ax e]at b
def iq.sm(a:iq):Prop:=a.fQ.length<=1099511627776/\a.done.length<=1099511627776/\a.d8.length<=1099511627776/\∀b∈a.fQ,b.fZ.length<=1000000000000
def iq.rU(a:iq)(i:Int)(b:ew->ew):iq:={a with d8:=a.d8.modify i.toNat b}
def iq.uj(a:iq)(c:Int)(b:fk->fk):iq:={a with fQ:=a.fQ.modify c.toNat b}
def mn(a:Int)(b:ew):ew:={b with jq:=a}
def nW:List Int->Int->List Int
 | [],a=>[a]
 |x::b,a=>if x<a then x::nW b a else if x=a then x::b else a::x::b
def B3(a c:Int)(b:List ew):Int:=if c∈jh a b 0 then c else(jh a b 0).headD (-1)
def gY(g:fJ)(a:iq)(f b c h:Int):iq×Int:=
 if b=1 then(a.rU f (mn 2),0)
 else if b=2 then(a.rU f (mn 5),0)
 else if b=6\/b=10 then(a.uj c λd=>{d with jY:=f},0)
 else if b=7\/b=11 then(a.uj c λd=>{d with jY:=-1},0)
 else if b=8 then(a.uj c λd=>{d with fZ:=nW d.fZ f},0)
 else if b=9 then(a.uj c λd=>{d with fZ:=d.fZ.filter λi=> !decide (i=f)},0)
 else if b=12 then({a with tx:=f},0)
 else if b=13 then({a with tx:=-1},0)
 else if b=14 then(a.rU f λe=>{e with atomic:=true},0)
 else if b=15 then(a.rU f λe=>{e with atomic:=false},0)
 else if b=16 then((a.uj ((wU g.je c).getD default).mN λd=>{d with jY:=-1}).rU f λe=>{e with jq:=3,cond:=c},0)
 else if b=17 then((a.uj ((wU g.je c).getD default).mN λd=>{d with jY:=f}).rU f λe=>{e with jq:=2,cond:=0},0)
 else if b=18 then(if jh c a.d8 0=[]then(a,-1)else(a.rU (B3 c h a.d8) (mn 4),B3 c h a.d8))
 else if b=19 then({a with d8:=a.d8.map λe=>if e.jq=3/\e.cond=c then mn 4 e else e},(jh c a.d8 0).length)
 else if b=20 then(a.rU c (mn 1),0)
 else if b=22 then({a with done:=a.done.set c.toNat true},0)
 else(a,0)
def No(a:List Int):Prop:=a.Pairwise (· < ·)
def iq.C9(b:iq):Prop:=∀a∈b.fQ,No a.fZ
def He{a:List Int}{c b:Int}(h:b∈nW a c):b∈a\/b=c:=by
 induction a with
 |nil=>simp[nW]at h;exact .inr h
 |cons e a d=>
  unfold nW at h;split at h;rcases List.mem_cons.1 h with rfl|h;exact .inl V;rcases d h with h|h;exact .inl (by simp[h]);exact .inr h;split at h;exact .inl h;rcases List.mem_cons.1 h with rfl|h;exact .inr rfl;exact .inl h
def Hf{b:List Int}(a:No b)(e:Int):No (nW b e):=by
 induction b with
 |nil=>simp[nW,No]
 |cons f b d=>
  unfold No at*
  rw[dJ]at a;unfold nW;split;rw[dJ];refine⟨λc hx=>?_,d a.2⟩;rcases He hx with hx|rfl
  exact a.1 c hx
  assumption
  split;rw[dJ];exact a;rw[dJ,dJ];refine⟨λc hx=>?_,a⟩;rcases List.mem_cons.1 hx with rfl|hx
  omega;have:=a.1 c hx;omega
def Mr(a:List Int)(b:Int):(nW a b).length<=a.length+1:=by
 induction a with
 |nil=>simp[nW]
 |cons d a c=>unfold nW;split<;>(try split)<;>simp<;>omega
def mem_modify{c:Type}{b:List c}{i:Nat}{g:c->c}{e:c}(h:e∈b.modify i g):e∈b\/∃f∈b,e=g f:=by have⟨j,a⟩:=List.mem_iff_getElem?.1 h;rw[List.getElem?_modify]at a;split at a;rcases d:b[j]? with _|f;rw[d]at a;simp at a;rw[d]at a;simp at a;exact .inr ⟨f,aD d,a.symm⟩;exact .inl (aD (iD a))
def YJ{b:iq}(d:b.C9){h:Int}{c:fk->fk}(f:∀a∈b.fQ,No (c a).fZ):(b.uj h c).C9:=by
 intro a hl;rcases mem_modify hl with e|⟨i,g,rfl⟩
 exact d a e;exact f i g
def tS{e:Type}(b:e->Prop){a:Prop} [Decidable a]{c d:e}(f:a->b c)(g:¬a->b d):b (if a then c else d):=by split;exact f (by assumption);exact g (by assumption)
def yz{P:iq×Int->Prop}{p:fJ}{b:iq}{e m g q:Int}(p0:P (b,0))(p1:P (b,-1))(pt:∀h c d,P (b.rU h c,d))(f:∀h c,(∀a,(c a).fZ=a.fZ\/(c a).fZ=nW a.fZ e\/(c a).fZ=a.fZ.filter λi=> !decide (i=e))->P (b.uj h c,0)/\∀l k,P ((b.uj h c).rU l k,0))
 (j:∀d,P ({b with tx:=d},0)) (o:∀c d,P ({b with d8:=b.d8.map c},d)) (n:∀d,P ({b with done:=b.done.set d true},0)):P (gY p b e m g q):=by
 unfold gY;refine tS P (λ_=>pt _ _ _) λ_=>?_;refine tS P (λ_=>pt _ _ _) λ_=>?_;refine tS P (λ_=>(f g (λa=>{a with jY:=e}) λ_=> .inl rfl).1) λ_=>?_;refine tS P (λ_=>(f g (λa=>{a with jY:=-1}) λ_=> .inl rfl).1) λ_=>?_;refine tS P (λ_=>(f g (λa=>{a with fZ:=nW a.fZ e}) λ_=> .inr (.inl rfl)).1) λ_=>?_;refine tS P (λ_=>(f g (λa=>{a with fZ:=a.fZ.filter λi=> !decide (i=e)}) λ_=> .inr (.inr rfl)).1) λ_=>?_;refine tS P (λ_=>j _) λ_=>?_;refine tS P (λ_=>j _) λ_=>?_;refine tS P (λ_=>pt _ _ _) λ_=>?_;refine tS P (λ_=>pt _ _ _) λ_=>?_;refine tS P (λ_=>(f _ (λa=>{a with jY:=-1}) λ_=> .inl rfl).2 _ _) λ_=>?_;refine tS P (λ_=>(f _ (λa=>{a with jY:=e}) λ_=> .inl rfl).2 _ _) λ_=>?_;refine tS P (λ_=>tS P (λ_=>p1) λ_=>pt _ _ _) λ_=>?_;refine tS P (λ_=>o _ _) λ_=>?_;refine tS P (λ_=>pt _ _ _) λ_=>?_;exact tS P (λ_=>n _) λ_=>p0
def yy{i:iq}(b:i.C9)(m:fJ)(g k l n:Int):(gY m i g k l n).1.C9:=by
 have j:∀(d:Int) (c:fk->fk),(∀a,(c a).fZ=a.fZ\/(c a).fZ=nW a.fZ g\/(c a).fZ=a.fZ.filter λh=> !decide (h=g))->(i.uj d c).C9:=λd c f=>YJ b λa hl=>by
  rcases f a with e|e|e<;>rw[e];exact b a hl;exact Hf (b a hl) g;exact(b a hl).filter _
 exact yz (P:=λh=>h.1.C9) b b (λ_ _ _=>b) (λd c f=>⟨j d c f,λ_ _=>j d c f⟩) (λ_=>b) (λ_ _=>b) (λ_=>b)
def yx(f:fJ)(a:iq)(e b c g:Int):(gY f a e b c g).1.fQ.length=a.fQ.length/\(gY f a e b c g).1.done.length=a.done.length/\(gY f a e b c g).1.d8.length=a.d8.length:=
 yz (P:=λd=>d.1.fQ.length=a.fQ.length/\d.1.done.length=a.done.length/\d.1.d8.length=a.d8.length) ⟨rfl,rfl,rfl⟩ ⟨rfl,rfl,rfl⟩ (λ_ _ _=>by simp[iq.rU]) (λ_ _ _=>by simp[iq.rU,iq.uj]) (λ_=>⟨rfl,rfl,rfl⟩) (λ_ _=>by simp) (λ_=>by simp)
def SE{a:List Int}{b:Int}(d:∀c∈a,c<b):nW a b=a++[b]:=by
 induction a with
 |nil=>rfl
 |cons g a f=>unfold nW;rw[ax (d g V),f λc e=>d c (by simp[e])];rfl
def SF:∀(b a:List Int),No (a++b)->b.foldl nW a=a++b:=by
 intro b;induction b with
 |nil=>intro a _;simp
 |cons c b h=>
  intro a e;have f:∀d∈a,d<c:=λd g=>(List.pairwise_append.1 e).2.2 d g c V;rw[List.foldl_cons,SE f,h (a++[c]) (iD e)];simp
def Rn{a:List Int}(c:No a)(b:Int): [b].foldl nW (a.foldl nW [])=nW a b:=by rw[SF a [] (iD c)];rfl
def ox(b:fJ)(a:gh):Bool:=m9 b a.gH&&decide (a.cells.length=b.cells.length)&&decide (a.fI.length=b.fI.length)&&decide (a.count.length=b.d8.length)
def BC(b:Int):aa Int->List Int->Bool
 |_,[]=>true
 |p,a::c=> !(decide (a<1))&& !(decide (b<=a))&&(match p with|some d=> !(decide (a<=d))|none=>true)&&BC b (some a) c
def qu(b:gh)(a:fR):Bool:=
 if a.fc=3 then(match wU b.cells a.obj with|some c=>decide (a.value=c)|none=>false)
 else if a.fc=23 then(match wU b.fI a.obj with|some c=>decide (a.value=c)|none=>false)
 else if a.fc=5 then decide (a.value=0)||decide (a.value=1)
 else if a.fc=4\/a.fc=22 then true
 else if a.fc=18 then(if jh a.obj b.gH.d8 0=[]then decide (a.value=-1)else decide (0<=a.value)&&decide (a.value<b.gH.d8.length)&&decide (a.value∈jh a.obj b.gH.d8 0))
 else if a.fc=19 then decide (a.value=(jh a.obj b.gH.d8 0).length)
 else decide (a.value=0)
def EA(d c:Int):List fR->Nat->Bool->Bool
 | [],_,a=>a
 |e::f,b,a=>if e.eG=d then EA d c f (b+1) (a||(decide ((b:Int)=c)&&(decide (e.fc=3)||decide (e.fc=23))))else EA d c f b a
def zj(a:List fR)(d:Int)(c:List Int):Bool:=c.all λb=>EA d b a 0 false
def Ao(c:Int):∀(a:List ew) (b:Nat),(jh c a b).length<=a.length:=by
 intro a;induction a with
 |nil=>intro b;simp[jh]
 |cons e a d=>intro b;rw[jh];have:=d (b+1);split<;>simp<;>omega
def oy(a:fR):Bool:=decide (a.fc=3)||decide (a.fc=4)
def mr(a b:fR):Bool:=oy a&&oy b&&decide (a.obj=b.obj)&&(decide (a.fc=4)||decide (b.fc=4))
def ue(a:Int):Bool:=decide (a=6)||decide (a=8)||decide (a=10)||decide (a=17)||decide (a=21)
def mP(b:List fR)(a:Int):fR:=(wU b a).getD default
def qA(a:List Int)(b:Int)(c:Nat):Int:=match a with
 | []=>-1
 |x::a=>if x=b then c else qA a b (c+1)
def Bw{c:Int}:∀{a:List Int} {b:Nat},0<=qA a c b↔c∈a:=by
 intro a;induction a with
 |nil=>intro b;simp[qA]
 |cons e a d=>intro b;unfold qA;grind
structure GX where
 w:fJ
 ev:List fR
 st:List iq
def GX.e(b:GX)(a:Int):fR:=mP b.ev a
def GX.s(b:GX)(a:Int):iq:=(wU b.st a).getD default
def GX.btw(d:GX)(a b:Int)(c:fR->Bool):Bool:=((d.ev.drop a.toNat).take (b-a).toNat).all c
def GX.p8(a:GX)(c b:Int):Bool:=
 if(a.e b).eG=(a.e c).eG then false
 else if(a.e b).fc=6\/(a.e b).fc=10 then decide ((oX (a.s c) (a.e b).obj).jY=(a.e c).eG)||decide ((a.e c).eG∈(oX (a.s c) (a.e b).obj).fZ)
 else if(a.e b).fc=8 then decide ((oX (a.s c) (a.e b).obj).jY=(a.e c).eG)
 else if(a.e b).fc=17 then decide ((vI a.w (a.s c) (a.e b).obj).jY=(a.e c).eG)
 else if(a.e b).fc=21 then decide ((a.e b).obj=(a.e c).eG)
 else false
def GX.uo(b:GX)(a c:Int):Bool:=ue (b.e a).fc&&b.p8 a c
def GX.Tb{b:GX}{j a:Int}(c:b.p8 j a):ue (b.e a).fc=true:=by unfold GX.p8 at c;unfold ue;by_cases h:(b.e a).fc=6;simp[h];by_cases d:(b.e a).fc=10;simp[d];by_cases i:(b.e a).fc=8;simp[i];by_cases f:(b.e a).fc=17;simp[f];by_cases g:(b.e a).fc=21;simp[g];simp[h,d,i,f,g]at c
def GX.Ji(c:GX)(d:Int->Int->Bool)(a:List Int):Bool:=
 decide (2<=a.length)&&decide (a.length<=4)&&(a.all λb=>jx b c.ev.length)&&(List.range a.length).all λb=>
  !decide (a.getD b 0<a.getD 0 0)&&d (a.getD ((b+1)% a.length) 0) (a.getD b 0)&&(List.range b).all λf=> !decide ((c.e (a.getD b 0)).eG=(c.e (a.getD f 0)).eG)
def GX.V1(e:GX)(d:List Int):e.Ji e.uo d=e.Ji e.p8 d:=by unfold GX.Ji;by_cases hl:2<=d.length;rotate_left;simp[hl];congr 1;rw[bI,cF,cF];constructor;intro a c f;have:=a c f;simp[aC,GX.uo]at this|-;exact⟨⟨this.1.1,this.1.2.2⟩,this.2⟩;intro a c f;have b:=a c f;have g:=a ((c+1)% d.length) (by rw[dB];exact Nat.mod_lt _ G);simp[aC,GX.uo]at b g|-;exact⟨⟨b.1.1,GX.Tb g.1.2,b.1.2⟩,b.2⟩
def GX.dead(g:GX)(f:Int->Int->Bool)(e:iw):Bool:=decide (e.a=0)&&decide (e.b=0)&&decide (e.c=0)&&decide (e.d=0)&&g.Ji f e.jo
def GX.Xw(a:GX)(b c:Int):Bool:=decide (b<c)&& !decide ((a.e b).eG=(a.e c).eG)&&mr (a.e b) (a.e c)&& !((wU a.w.cells (a.e b).obj).getD default).B5
def GX.VF(a:GX)(b c:Int):Bool:=
 decide (c<b)&&(decide ((a.e b).fc=18)||decide ((a.e b).fc=19))&&decide ((a.e c).fc=16)&&decide ((a.e b).obj=(a.e c).obj)&& !decide ((a.e b).eG=(a.e c).eG)&&
  a.btw (c+1) b (λd=> !decide (d.eG=(a.e c).eG))&&decide ((pW (a.s b) (a.e c).eG).jq=3)&&(decide ((a.e b).fc=19)||decide ((a.e b).value=(a.e c).eG))
def GX.CU(b:Int)(a:fR):Bool:= !(decide (a.eG=b)&&decide (a.fc=15))
def GX.M6(b:GX)(a c:Int):Bool:=
 decide (a<c)&&decide ((b.e c).eG=(b.e a).eG)&&(pW (b.s a) (b.e a).eG).atomic&&b.btw (a+1) c (GX.CU (b.e a).eG)
def GX.brk(a:GX)(d f b c:Int):Bool:=
 decide (b<=c)&&decide ((a.e b).eG=(a.e c).eG)&& !decide ((a.e b).eG=(a.e d).eG)&&mr (a.e d) (a.e b)&&mr (a.e c) (a.e f)
def GX.M4(a:GX)(b c d f:Int):Bool:=
 decide (b<c)&&decide (d<=f)&&decide ((a.e b).eG=(a.e c).eG)&&decide ((a.e d).eG=(a.e f).eG)&& !decide ((a.e b).eG=(a.e d).eG)&&mr (a.e b) (a.e d)&&mr (a.e f) (a.e c)&&
  a.btw b c (GX.CU (a.e b).eG)&&(pW (a.s b) (a.e b).eG).atomic
def GX.BZ(b:GX)(a:Int):Bool:=jx a b.ev.length
def GX.vR(f:GX)(e:iw):Bool:=
 if e.fc=2 then f.dead f.p8 e
 else if(f.BZ e.a&&f.BZ e.b&&f.BZ e.c&&f.BZ e.d)=true then
  (
   if e.fc=1 then decide (e.c=0)&&decide (e.d=0)&&decide (e.jo=[])&&f.Xw e.a e.b
   else if e.fc=3 then decide (e.c=0)&&decide (e.d=0)&&decide (e.jo=[])&&f.VF e.a e.b
   else if e.fc=4 then decide (e.jo=[])&&f.M4 e.a e.b e.c e.d
   else false)
 else false
def GX.vG(f:GX)(e:iw):Bool:=
 if e.fc=1 then decide (e.c=0)&&decide (e.d=0)&&decide (e.jo=[])&&(f.BZ e.a&&f.BZ e.b)&&f.Xw e.a e.b
 else if e.fc=2 then f.dead f.uo e
 else if e.fc=3 then decide (e.c=0)&&decide (e.d=0)&&decide (e.jo=[])&&(f.BZ e.a&&f.BZ e.b)&&f.VF e.a e.b
 else if e.fc=4 then decide (e.jo=[])&&(f.BZ e.a&&f.BZ e.b&&f.BZ e.c&&f.BZ e.d)&&f.M6 e.a e.b&&f.brk e.a e.b e.c e.d
 else false
def GX.in0{a:GX}{b:Int}(c:a.BZ b):a.BZ 0=true:=by
 unfold GX.BZ at*
 rw[fT]at*
 omega
def GX.adr{b:GX}{a c g r:Int}(u:b.BZ a):(b.M6 a c&&b.brk a c g r)=b.M4 a c g r:=by
 have w:mr (b.e a) (b.e g)->a<c->b.btw a c (GX.CU (b.e a).eG)=b.btw (a+1) c (GX.CU (b.e a).eG):=by
  intro d q;have⟨t,f⟩:=fT.1 u;unfold GX.btw;have s:b.ev.drop a.toNat=b.e a::b.ev.drop (a+1).toNat:=by
   rw[show(a+1).toNat=a.toNat+1 by omega,aL f];congr 1;unfold GX.e mP wU;rw[ax t];simp[f]
  rw[s,show(c-a).toNat=(c-(a+1)).toNat+1 by omega,dD,cA];have v:GX.CU (b.e a).eG (b.e a):=by
   unfold GX.CU;unfold mr oy at d;simp[aC,cj,aO]at d;rcases d.1.1.1 with h|h<;>simp[h]
  rw[v,bj]
 unfold GX.M6 GX.brk GX.M4;by_cases d:mr (b.e a) (b.e g)=true;by_cases q:a<c;rw[w d q];rw[bI];simp[aC,aO,bK];constructor;rintro⟨⟨⟨⟨f,i⟩,j⟩,k⟩,⟨⟨⟨l,m⟩,n⟩,o⟩,p⟩;exact⟨⟨⟨⟨⟨⟨⟨⟨f,l⟩,i.symm⟩,m⟩,λh=>n h.symm⟩,o⟩,p⟩,k⟩,j⟩;rintro⟨⟨⟨⟨⟨⟨⟨⟨f,l⟩,i⟩,m⟩,n⟩,o⟩,p⟩,k⟩,j⟩;exact⟨⟨⟨⟨f,i.symm⟩,j⟩,k⟩,⟨⟨⟨l,m⟩,λh=>n h.symm⟩,o⟩,p⟩;simp[q];rw[Bool.not_eq_true]at d;simp[d]
def GX.XH(f:GX)(e:iw):f.vG e=f.vR e:=by
 unfold GX.vG GX.vR;by_cases g:e.fc=1
 .rw[ax g,aw G,ax g];by_cases j:e.c=0;rotate_left;simp[j];by_cases k:e.d=0;rotate_left;simp[k];rw[j,k];cases i:f.BZ e.a;simp;rw[GX.in0 i];cases f.BZ e.b<;>simp
 rw[aw g];by_cases l:e.fc=2;rw[ax l,ax l];unfold GX.dead;rw[GX.V1];rw[aw l,aw l];by_cases h:e.fc=3
 .rw[ax h,aw g,ax h];by_cases j:e.c=0;rotate_left;simp[j];by_cases k:e.d=0;rotate_left;simp[k];rw[j,k];cases i:f.BZ e.a;simp;rw[GX.in0 i];cases f.BZ e.b<;>simp
 rw[aw h];by_cases m:e.fc=4;rw[ax m,aw g,aw h,ax m];cases i:f.BZ e.a;simp;rw[<-GX.adr i];cases (f.BZ e.b)<;>cases f.BZ e.c<;>cases f.BZ e.d<;>simp[Bool.and_assoc];rw[aw m,aw g,aw h,aw m];simp
def gC(a:List Int):iw:=⟨2,0,0,0,0,a⟩
def jn(a b:Nat):List Nat:=List.range' a (b-a)
def B1(d:Nat)(b:List Int->Bool)(go:List Int->Int->Bool):Nat->List Int->List (List Int)
 |0,a=>if b a=true then [a]else []
 |k+1,a=>(if b a=true then [a]else [])++(jn ((a.getD 0 0).toNat+1) d).flatMap λ(c:Nat)=>if go a c=true then B1 d b go k (a++[(c:Int)])else []
def QC{k:Nat}{e:List Int->Bool}{go:List Int->Int->Bool}:∀(b:Nat) (c a:List Int),a∈B1 k e go b c->e a/\∃d,a=c++d:=by
 intro b;induction b with
 |zero=>
  intro c a h;unfold B1 at h;split at h;simp at h;subst h;exact⟨by assumption,[],V⟩;simp at h
 |succ b i=>
  intro c a h;unfold B1 at h;rw[List.mem_append]at h;rcases h with h|h
  split at h;simp at h;subst h;exact⟨by assumption,[],V⟩;simp at h;rw[cT]at h;obtain⟨j,_,h⟩:=h;split at h;have⟨f,d,g⟩:=i _ _ h;exact⟨f,(j:Int)::d,by rw[g];simp⟩;simp at h
def QD{n:Nat}{ok:List Int->Bool}{go:List Int->Int->Bool}(g:∀(a e:List Int) (b:Int),ok (a++b::e)->go a b):∀(c:Nat) (a:List Int),B1 n ok go c a=B1 n ok (λ_ _=>true) c a:=by
 intro c;induction c with
 |zero=>intro a;rfl
 |succ c i=>
  intro a;unfold B1;congr 1;congr 1;funext b;rw[ax rfl,<-i];by_cases d:go a b=true;rw[ax d];rw[aw d];symm;rw[List.eq_nil_iff_forall_not_mem];intro j h;obtain⟨f,e,rfl⟩:=QC _ _ _ h;exact d (g a e b (iD f))
def acW{c:Nat}{a b:List Int->Bool}{go:List Int->Int->Bool}(e:∀d,a d=b d):B1 c a go=B1 c b go:=by rw[show a=b from funext e]
def mO(a:List Int):Int:=a.getD (a.length-1) 0
def GX.MO{o:GX}{h:Int->Int->Bool}{a d:List Int}{b:Int}(n:a≠ [])(e:o.Ji h (a++b::d)):h b (mO a)/\b∉a:=by
 unfold GX.Ji at e;simp only[aC,cF]at e;have p:0<a.length:=List.length_pos_iff.2 n;have g:(a++b::d).length=a.length+1+d.length:=dP;have i:(a++b::d).getD a.length 0=b:=by simp[List.getD]
 refine⟨?_,λm=>?_⟩;have c:=(e.2 (a.length-1) (by rw[dB,g];omega)).1.2;rw[show a.length-1+1=a.length by omega,Nat.mod_eq_of_lt (by rw[g];omega),i]at c;have f:(a++b::d).getD (a.length-1) 0=mO a:=by
  unfold mO;simp[List.getD,cH (show a.length-1<a.length by omega)]
 rwa[f]at c;have⟨k,j,l⟩:=List.getElem_of_mem m;have c:=(e.2 a.length (by rw[dB,g];omega)).2 k (by rw[dB];omega);rw[i]at c;have f:(a++b::d).getD k 0=b:=by
  simp only[List.getD,cH j,aF j,l,Option.getD_some]
 rw[f]at c;simp at c
def GX.Eg(b:GX)(d:Nat):List (List Int):=B1 b.ev.length (λa=>b.vR (gC a)) (λa c=> !decide (c∈a)&&b.p8 c (mO a)) 3 [(d:Int)]
def GX.O8(b:GX)(c:Nat):List (List Int):=B1 b.ev.length (λa=>decide (2<=a.length)&&b.vG (gC a)) (λa d=>b.uo d (mO a)) 3 [(c:Int)]
def GX.dX(a:GX)(b:List Int):a.vR (gC b)=a.Ji a.p8 b:=by unfold GX.vR GX.dead gC;simp
def VY{d:Nat}{e:List Int->Bool}{go go':List Int->Int->Bool}(f:∀(a:List Int) (b:Int),a≠ []->go a b=go' a b):∀(c:Nat) (a:List Int),a≠ []->B1 d e go c a=B1 d e go' c a:=by
 intro c;induction c with
 |zero=>intro a _;rfl
 |succ c h=>
  intro a g;unfold B1;congr 1;congr 1;funext b;rw[f a b g,h (a++[(b:Int)]) V]
def GX.V0(b:GX)(g:Nat):b.O8 g=b.Eg g:=by
 unfold GX.O8 GX.Eg;have j:∀a,(decide (2<=a.length)&&b.vG (gC a))=b.vR (gC a):=by
  intro a;rw[GX.XH,GX.dX];by_cases d:2<=a.length;simp[d];unfold GX.Ji;simp[d]
 rw[acW j];have h:=QD (n:=b.ev.length) (ok:=λa=>b.vR (gC a)) (go:=λa f=>decide (a=[])||b.uo f (mO a)) (λa m f d=>by
  by_cases c:a=[];simp[c];rw[GX.dX,<-GX.V1]at d;simp[(GX.MO c d).1]) 3 [(g:Int)]
 have i:=QD (n:=b.ev.length) (ok:=λa=>b.vR (gC a)) (go:=λa e=>decide (a=[])||(!decide (e∈a)&&b.p8 e (mO a))) (λa m f d=>by
  by_cases c:a=[];simp[c];rw[GX.dX]at d;have⟨k,l⟩:=GX.MO c d;simp[k,l]) 3 [(g:Int)]
 rw[VY (go':=λa f=>decide (a=[])||b.uo f (mO a)) (λa f c=>by simp[c]) 3 _ V,
  VY (go:=λa e=> !decide (e∈a)&&b.p8 e (mO a)) (go':=λa e=>decide (a=[])||(!decide (e∈a)&&b.p8 e (mO a))) (λa f c=>by simp[c]) 3 _ V,h,i]
def GX.n(a:GX):Nat:=a.ev.length
def jJ(b:iw->Bool)(a:iw):List iw:=if b a=true then [a]else []
def gR(a b:Nat):iw:=⟨1,a,b,0,0,[]⟩
def gL(a b:Nat):iw:=⟨3,a,b,0,0,[]⟩
def gA(a b c d:Nat):iw:=⟨4,a,b,c,d,[]⟩
def GX.oH(a:GX):List iw:=
 ((List.range a.n).flatMap λ(b:Nat)=>(List.range a.n).flatMap λ(c:Nat)=>jJ a.vR (gR b c))++
 ((List.range a.n).flatMap λ(b:Nat)=>(a.Eg b).map gC)++
 ((List.range a.n).flatMap λ(b:Nat)=>(List.range a.n).flatMap λ(c:Nat)=>jJ a.vR (gL b c))++
 ((
  List.range a.n).flatMap λ(b:Nat)=>(jn (b+1) a.n).flatMap λ(c:Nat)=>
  if(a.e b).eG=(a.e c).eG/\oy (a.e b)/\oy (a.e c)=true then(List.range a.n).flatMap λ(d:Nat)=>(jn d a.n).flatMap λ(f:Nat)=>jJ a.vR (gA b c d f)else [])
def GX.pA(a:GX):List iw:=
 ((List.range a.n).flatMap λ(b:Nat)=>(jn (b+1) a.n).flatMap λ(c:Nat)=>jJ a.vG (gR b c))++
 ((List.range a.n).flatMap λ(b:Nat)=>(a.O8 b).map gC)++
 ((List.range a.n).flatMap λ(b:Nat)=>(List.range b).flatMap λ(c:Nat)=>jJ a.vG (gL b c))++
 ((
  List.range a.n).flatMap λ(b:Nat)=>(jn (b+1) a.n).flatMap λ(c:Nat)=>
  if a.M6 b c=true then(List.range a.n).flatMap λ(d:Nat)=>(jn d a.n).flatMap λ(e:Nat)=>jJ a.vG (gA b c d e)else [])
def ED{a b:Nat}(c:a<=b):List.range b=List.range a++List.range' a (b-a):=by rw[List.range_eq_range',List.range_eq_range',show b=a+(b-a)by omega,<-List.range'_append_1];simp
def uJ{b e:Type}{l:List b}{a:b->List e}(c:∀d∈l,a d=[]):l.flatMap a=[]:=by rw[List.flatMap_eq_nil_iff];exact c
def pH{f j:Type}{a:List f}{c d:f->List j}(e:∀b∈a,c b=d b):a.flatMap c=a.flatMap d:=by
 induction a with
 |nil=>rfl
 |cons b a h=>simp[aV];rw[e b V,h λi g=>e i (by simp[g])]
def GX.J8(a:GX):a.pA=a.oH:=by
 have p:a.vG=a.vR:=funext a.XH;unfold GX.pA GX.oH;rw[p];congr 1;congr 1;congr 1;refine pH λb h=>?_;rw[dB]at h;rw[ED (show b+1<=a.n by omega),c8];rw[uJ (l:=List.range (b+1)),cm];rfl;intro d i;rw[dB]at i;unfold jJ;rw[aw];unfold GX.vR gR GX.Xw;have:¬((b:Int)<d):=G;simp[this];exact pH λb h=>by rw[GX.V0]
 refine pH λb h=>?_;rw[dB]at h;rw[ED (show b<=a.n by omega),c8,uJ (l:=List.range' b (a.n-b)),bJ];intro d i;rw[List.mem_range'_1]at i;unfold jJ;rw[aw];unfold GX.vR gL GX.VF;have:¬((d:Int)<b):=G;simp[this];refine pH λb h=>pH λd i=>?_;have none:∀{m:Prop},(∀f g,a.vR (gA b d f g)->m)->¬m->((List.range a.n).flatMap λ(f:Nat)=>(jn f a.n).flatMap λ(g:Nat)=>jJ a.vR (gA b d f g))=[]:=by
  intro m c o;refine uJ λf _=>uJ λg _=>?_;unfold jJ;exact aw λq=>o (c f g q)
 by_cases j:a.M6 b d=true;rw[ax j];by_cases k:(a.e b).eG=(a.e d).eG/\oy (a.e b)/\oy (a.e d)=true;rw[ax k];rw[aw k];refine none (λf g c=>?_) k;unfold GX.vR gA at c;simp only[show¬((4:Int)=2)by omega,show¬((4:Int)=1)by omega,show¬((4:Int)=3)by omega,if_false,if_true]at c;split at c;unfold GX.M4 mr at c;simp only[aC,aO]at c;obtain⟨_,⟨⟨⟨⟨⟨⟨⟨_,_⟩,r⟩,_⟩,_⟩,s⟩,t⟩,_⟩,_⟩:=c;exact⟨r,s.1.1.1,t.1.1.2⟩;simp at c;rw[aw j];split;symm;refine none (λf g c=>?_) j;rw[<-GX.XH]at c;unfold GX.vG gA at c;simp only[show¬((4:Int)=2)by omega,show¬((4:Int)=1)by omega,show¬((4:Int)=3)by omega,if_false,if_true]at c;simp only[aC]at c;exact c.1.2;rfl
section
def mZ(a:fR):Int:=if a.fc=18 then a.value else-1
def vZ(b:fJ)(a:fR):Bool:=if a.fc=1\/a.fc=2 then decide (a.ke=-1)else(match wU b.jL a.ke with|some c=>decide (c.eG=a.eG)|none=>false)
def sizeOf(b:fJ)(a:Int):Int:=((wU b.cells a).getD default).size
def QE(b:fJ)(a:fR):Bool:=decide (a.nH=[])||decide (a.fc=5)||(oy a&& !decide (sizeOf b a.obj=0))
def Qv(a:fR):Bool:=decide (a.vU=[])||decide (a.fc=4)||decide (a.fc=22)
def tN(c:fJ)(b:gh)(a:fR):Bool:=
 ox c b&&jx a.eG c.d8.length&&(decide (1<=a.fc)&&decide (a.fc<=23))&&jM c b.gH a.eG a.fc a.obj&&vZ c a&&QE c a&&Qv a&&
  BC (b.count.getD a.eG.toNat 0) none a.nH&&BC (b.count.getD a.eG.toNat 0) none a.vU&&qu b a
def lA(c:fJ)(b:gh)(a:fR):gh:=
 ⟨(gY c b.gH a.eG a.fc a.obj (mZ a)).1,if a.fc=4 then b.cells.set a.obj.toNat a.value else b.cells,if a.fc=22 then b.fI.set a.obj.toNat a.value else b.fI,b.count.modify a.eG.toNat (· +1)⟩
def wH:gh:=⟨⟨[],0,[],[]⟩,[],[],[]⟩
def kP(c:fJ)(b:gh)(a:fR):gh×Bool:=if tN c b a=true then(lA c b a,true)else(wH,false)
section
variable {S E:Type}
def r7(ok:S->E->Bool)(nx:S->E->S):S->List E->Bool
 |_,[]=>true
 |s,a::b=>ok s a&&r7 ok nx (nx s a) b
def xU(nx:S->E->S):S->List E->List S
 |_,[]=>[]
 |s,a::b=>s::xU nx (nx s a) b
def Am(go:S->E->S):S->List E->S
 |s,[]=>s
 |s,a::b=>Am go (go s a) b
def Zx{a:Type}(d:a->E->Bool)(b:a->E->a):a->List E->aa (List a)
 |_,[]=>some []
 |s,c::e=>if d s c=true then(Zx d b (b s c) e).map (s:: ·)else none
variable {ok:S->E->Bool}{nx go:S->E->S}
def NK:∀(a:List E) (b:S),(xU nx b a).length=a.length:=by
 intro a;induction a with
 |nil=>intro b;rfl
 |cons d a c=>intro b;simp[xU,c]
def RC(f:∀a b,ok a b->go a b=nx a b):∀(c d:List E) (a:S),r7 ok nx a (c++d)=(r7 ok nx a c&&r7 ok nx (Am go a c) d):=by
 intro c;induction c with
 |nil=>intro d a;simp[r7,Am]
 |cons b c g=>
  intro d a;simp[cg,r7,Am];cases e:ok a b;simp;rw[g,f a b e,bj,bj]
def Nf:∀(a b:List E) (c:S),Am go c (a++b)=Am go (Am go c a) b:=by
 intro a;induction a with
 |nil=>intro b c;rfl
 |cons e a d=>intro b c;simp[cg,Am,d]
def NM(g:∀a d,ok a d->go a d=nx a d):∀(c:List E) (a:S) (b:Nat),r7 ok nx a c->b<c.length->(xU nx a c)[b]? =D (Am go a (c.take b)):=by
 intro c;induction c with
 |nil=>intro a b _ f;simp at f
 |cons d c h=>
  intro a b e f;simp[r7,aC]at e;rcases b with _|b
  simp[xU,Am];simp[xU,dI,dD,Am];rw[g a d e.1];exact h _ b e.2 (iD f)
def TU(g:∀b a,ok b a->go b a=nx b a):∀(d:List E) (b:S) (c:Nat) (a:E),r7 ok nx b d->d[c]? =D a->ok (Am go b (d.take c)) a=true:=by
 intro d;induction d with
 |nil=>intro b c a _ e;simp at e
 |cons i d h=>
  intro b c a f e;simp[r7,aC]at f;rcases c with _|c
  simp at e;subst e;simpa[Am]using f.1;simp[dD,Am];rw[g b i f.1];exact h _ c a f.2 (iD e)
def Tf{d:Type}{g:d->E->Bool}{f:d->E->d}{pr:S->d}(h:∀a b,ok a b->g (pr a) b)(i:∀a b,pr (nx a b)=f (pr a) b):∀(c:List E) (a:S),r7 ok nx a c->Zx g f (pr a) c=D ((xU nx a c).map pr):=by
 intro c;induction c with
 |nil=>intro a _;rfl
 |cons b c j=>
  intro a e;simp only[r7,aC]at e;simp only[Zx,xU,aR];rw[ax (h a b e.1),<-i,j _ e.2];rfl
def WY{I:S->Prop}(e:∀a c,I a->I (go a c)):∀(b:List E) (a:S),I a->I (Am go a b):=by
 intro b;induction b with
 |nil=>intro a d;exact d
 |cons c b f=>intro a d;exact f _ (e a c d)
end
def runs(a:fJ):gh->List fR->Bool:=r7 (tN a) (lA a)
def PP(a:fJ):gh->List fR->List gh:=xU (lA a)
def rV(w:fJ):gh->List fR->gh:=Am λb a=>(kP w b a).1
def wX{c:fJ}(b:gh)(a:fR)(d:tN c b a):(kP c b a).1=lA c b a:=by unfold kP;rw[ax d]
def Ry(c:fJ)(a:List fR)(b:gh):(PP c b a).length=a.length:=NK a b
def Gb(b:fJ)(c d:List fR)(a:gh):runs b a (c++d)=(runs b a c&&runs b (rV b a c) d):=RC (go:=λa e=>(kP b a e).1) wX c d a
def DA{e:fJ}{a:List fR}{d:gh}(b:runs e d a)(c:Nat):runs e d (a.take c)=true:=by rw[<-da c a,Gb,aC]at b;exact b.1
def TT{c:fJ}{a:List fR}{f:gh}(d:runs c f a)(b e:Nat):runs c (rV c f (a.take b)) ((a.drop b).take e)=true:=by rw[<-da b a,Gb,aC]at d;exact DA d.2 e
def Rz{d:fJ}(b:List fR)(a:gh)(c:Nat)(f:runs d a b)(g:c<b.length):(PP d a b)[c]? =D (rV d a (b.take c)):=NM (go:=λa e=>(kP d a e).1) wX b a c f g
def XU{d:fJ}(c:List fR)(b:gh)(e:Nat)(a:fR)(f:runs d b c)(g:c[e]? =D a):tN d (rV d b (c.take e)) a=true:=TU (go:=λb a=>(kP d b a).1) wX c b e a f g
def qO{c:fJ}{d:gh}{a:fR}(b:tN c d a):ox c d/\jx a.eG c.d8.length/\jM c d.gH a.eG a.fc a.obj=true:=by unfold tN at b;simp[aC]at b;exact⟨b.1.1.1.1.1.1.1.1.1,b.1.1.1.1.1.1.1.1.2,b.1.1.1.1.1.1.2⟩
def ana(c:fJ):iq->List fR->aa (List iq):=Zx (λb a=>jM c b a.eG a.fc a.obj) λb a=>(gY c b a.eG a.fc a.obj (mZ a)).1
def WQ{c:fJ}(b:List fR)(a:gh)(d:runs c a b):ana c a.gH b=D ((PP c a b).map gh.gH):=
 Tf (pr:=gh.gH) (λa f e=>(qO e).2.2) (λ_ _=>rfl) b a d
structure yN(w:eJ):Prop where
 len:w.ei.length<=16
 rU:w.gG.d8.length<=4
 run:runs w.gG w.kH w.ei
 C9:w.kH.gH.C9
def eJ.gx(c:eJ):GX:=⟨c.gG,c.ei,(PP c.gG c.kH c.ei).map gh.gH⟩
def yN.ok{a:eJ}(b:yN a){i:Nat}{e:fR}(c:a.ei[i]? =D e):tN a.gG (rV a.gG a.kH (a.ei.take i)) e=true:=XU _ _ _ _ b.run c
def yN.st{a:eJ}(c:yN a){b:Nat}(d:b<a.ei.length):a.gx.st[b]? =D (rV a.gG a.kH (a.ei.take b)).gH:=by unfold eJ.gx;rw[br,Rz _ _ _ c.run d];rfl
def yN.e{a:eJ}(d:yN a){i:Int}(g:jx i a.ei.length):∃e,a.ei[i.toNat]? =D e/\a.gx.e i=e/\jx e.eG a.gG.d8.length/\ky a.gG e.fc e.obj=true:=by have⟨f,b⟩:=fT.1 g;refine⟨a.ei[i.toNat],by simp[b],?_,?_⟩;unfold GX.e mP wU eJ.gx;rw[ax f];simp[b];have:=d.ok (i:=i.toNat) (e:=a.ei[i.toNat]) (by simp[b]);have⟨_,h,c⟩:=qO this;refine⟨h,?_⟩;unfold jM at c;simp[aC]at c;exact c.1.2
def yN.s{a:eJ}(c:yN a){i:Int}(g:jx i a.ei.length):a.gx.s i=(rV a.gG a.kH (a.ei.take i.toNat)).gH/\m9 a.gG (a.gx.s i)=true:=by
 have⟨f,d⟩:=fT.1 g;have h:=c.st d;have b:a.gx.s i=(rV a.gG a.kH (a.ei.take i.toNat)).gH:=by
  unfold GX.s wU;rw[ax f,h];rfl
 refine⟨b,?_⟩;rw[b];have:=(qO (c.ok (i:=i.toNat) (e:=a.ei[i.toNat]) (by simp[d]))).1;unfold ox at this;simp[aC]at this;exact this.1.1.1
def NG{b:fJ}{a:gh}{c:fR}(d:a.gH.C9):(kP b a c).1.gH.C9:=by unfold kP;split;exact yy d b _ _ _ _;intro e hl;simp[wH]at hl
def Zz{d:fJ}(c:List fR)(a:gh)(b:a.gH.C9):(rV d a c).gH.C9:=WY (I:=λa=>a.gH.C9) (λ_ _ b=>NG b) c a b
def m8(a:fJ):iq:=⟨a.fQ.map λ_=>⟨-1,[]⟩,-1,a.fI.map λ_=>false,(List.range a.d8.length).map λb=>⟨if b=0 then 1 else 0,0,false⟩⟩
def kR(a:fJ):gh:=⟨m8 a,a.cells.map ji.kH,a.fI.map λ_=>0,a.d8.map λ_=>0⟩
def vX(a:fJ):(kR a).gH.C9:=by intro b hl;unfold kR m8 at hl;simp[List.mem_map]at hl;obtain⟨_,_,rfl⟩:=hl;exact List.Pairwise.nil
def yV(b:fJ)(c:List fR)(d a:Nat):eJ:=⟨b,a,rV b (kR b) (c.take a),(c.drop a).take d⟩
def TA{a:fJ}{d:List fR}(e:runs a (kR a) d)(ht:a.d8.length<=4){b:Nat}(f:b<=16)(c:Nat):yN (yV a d b c):=
 ⟨by simp[yV];omega,ht,TT e c b,Zz _ _ (vX a)⟩
end
def uw(c:Int)(b:List Int):List fR->Nat->Int
 | [],_=>-1
 |e::d,a=>if e.eG=c/\¬(a:Int)∈b then a else uw c b d (a+1)
def yf(c:Int):List fR->Nat->Int->Int
 | [],_,_=>-1
 |e::d,a,b=>if e.eG=c then(if b=0 then(a:Int)else yf c d (a+1) (IntKind.i64.wrap (b-1)))else yf c d (a+1) b
def jG(c:eJ)(a:fK)(b:Int):Int:=uw b a.order c.ei 0
def yJ(a:List Bool)(b:Int):Bool:=(wU a b).getD false
def BJ(d:eJ)(b:List Bool)(c first a:Int):Bool:=decide (a<first)||yJ b (yf c d.ei 0 (IntKind.i64.wrap (a-first)))
def ou(c:eJ)(d:fK)(b:Int)(a:List Int):Bool:=match wU c.kH.count b with
 |some first=>a.all (BJ c d.fixed b first)
 |none=>decide (a=[])
def jw(a:eJ)(b:fK)(c:Int):Bool:=
 if jG a b c<0 then false
 else jM a.gG b.gH c (mP a.ei (jG a b c)).fc (mP a.ei (jG a b c)).obj&&ou a b c (mP a.ei (jG a b c)).nH
def cont(a:Bool)(b:Int):im:=if a=true then⟨b,true⟩else⟨0,false⟩
def fixC(a:List im)(b c:Int):Bool:=decide (wU a b=D ⟨c,true⟩)
def aa8:fK:=⟨⟨[],0,[],[]⟩,[],[],[],[],[]⟩
def Ed(e:eJ)(b:fK)(c:Int)(a:fR)(d f:Int):fK:=
 ⟨
  (gY e.gG b.gH d a.fc a.obj f).1,
  if a.fc=4 then b.cells.set a.obj.toNat (cont (ou e b d a.vU) a.value)else b.cells,
  if a.fc=22 then b.fI.set a.obj.toNat (cont (ou e b d a.vU) a.value)else b.fI,
  b.order++[c],
  if a.fc=3 then b.fixed.set c.toNat (fixC b.cells a.obj a.value)else if a.fc=23 then b.fixed.set c.toNat (fixC b.fI a.obj a.value)else b.fixed,
  if a.fc=18 then(if 0<=(gY e.gG b.gH d a.fc a.obj f).2 then b.qV.set c.toNat 1 else b.qV)
   else if a.fc=19 then b.qV.set c.toNat (gY e.gG b.gH d a.fc a.obj f).2 else b.qV⟩
def kf(b:eJ)(c:fK)(a:io):fK×Bool:=
 if jw b c a.eG=true then(Ed b c (jG b c a.eG) (mP b.ei (jG b c a.eG)) a.eG a.qW,true)else(aa8,false)
def ls(a:eJ):fK:=⟨a.kH.gH,a.kH.cells.map λb=>⟨b,true⟩,a.kH.fI.map λb=>⟨b,true⟩,[],ao a.ei.length false,ao a.ei.length 0⟩
def oh(a:eJ)(b:fK)(c:Int):List Int:=
 if 0<=jG a b c/\(mP a.ei (jG a b c)).fc=18/\jh (mP a.ei (jG a b c)).obj b.gH.d8 0≠ []then jh (mP a.ei (jG a b c)).obj b.gH.d8 0 else [-1]
def ux(c:eJ)(b:fK)(e:Nat):List io:=(List.range e).flatMap λ(a:Nat)=>if jw c b a=true then(oh c b a).map λd=>⟨a,d⟩else []
def rj(a:eJ)(c:fK)(b:Int):Bool:=decide (jG a c (mP a.ei b).eG=b)&&jw a c (mP a.ei b).eG
def place(a:fK)(b:Int):Int:=qA a.order b 0
def Es(a:fK)(b:Int):Bool:=decide (wU a.qV b=D 0)
def At(g:eJ)(f:fK)(e:iw):Bool:=
 if e.fc=1 then rj g f e.a&&rj g f e.b
 else if e.fc=2 then e.jo.all λh=>decide (jG g f (mP g.ei h).eG=h)&&(!decide ((mP g.ei h).fc=17)||decide ((pW f.gH (mP g.ei h).eG).jq=4))
 else if e.fc=3 then decide (f.order.getLast?=D e.b)&&decide (0<=place f e.a)&&Es f e.a
 else decide (0<=place f e.a)&&decide (place f e.a<place f e.c)&&decide (0<=place f e.d)&&rj g f e.b
structure yS(N:Nat)(w:eJ)(c:fK):Prop where
 fx:c.fixed.length=w.ei.length
 wk:c.qV.length=w.ei.length
 ce:w.ei≠ []->c.cells.length=w.gG.cells.length
 fu:w.ei≠ []->c.fI.length=w.gG.fI.length
 ft:w.ei≠ []->m9 w.gG c.gH
 rd:∀l∈c.gH.fQ,l.fZ.length<=N
 C9:c.gH.C9
 od:c.order.length<=N
def allI{b:Type}(a:Nat->b->Bool):Nat->List b->Bool
 |_,[]=>true
 |k,d::c=>a k d&&allI a (k+1) c
def yh(a:Nat):Bool:=decide (97<=a/\a<=122)||decide (65<=a/\a<=90)
def HE(a:Nat):Bool:=decide (48<=a/\a<=57)
def Ad(a:Nat):Bool:=yh a||HE a||decide (a=95)
def pQ:List (List Nat):=[[118,97,114],[118,111,108,97,116,105,108,101],[109,117,116,101,120],[114,119,108,111,99,107],[99,111,110,100],[102,117,116,117,114,101],[116,104,114,101,97,100],[105,102],[101,108,115,101],[119,104,105,108,101],[108,111,99,107],[114,101,97,100],[119,114,105,116,101],[116,114,97,110,115,97,99,116,105,111,110],[97,116,111,109,105,99],[119,97,105,116],[110,111,116,105,102,121],[110,111,116,105,102,121,97,108,108],[115,112,97,119,110],[106,111,105,110],[115,101,116],[103,101,116]]
def xD(a:List Nat):Bool:=decide (a∈pQ)
def Qr(a:List Nat):Bool:=match a with|c::_=>yh c| []=>false
def xv(a:List Nat):Bool:=decide (1<=a.length)&&decide (a.length<=12)&& !xD a&&Qr a&&a.all Ad
def zL(a:List (List Nat)):Bool:=a.all xv&&decide a.Nodup
def PS(a:ji)(c:List ji):Bool:=allI (λb d=>decide (d={a with index:=b,B5:=false})) 0 (c.take a.size.toNat)
def jW:List ji->aa (List (List Nat))
 | []=>some []
 |c::a=>if c.size=0 then(if c.index=0 then(jW a).map (c.name:: ·)else none)
  else if d:c.size<1\/4<c.size\/(a.length+1:Int)<c.size then none
  else if PS c (c::a)=true then(jW ((c::a).drop c.size.toNat)).map (c.name:: ·)else none
 termination_by b=>b.length
 decreasing_by
  simp;simp;omega
def nI(b:Nat):Int->Int->List jE->Bool
 |_,_,[]=>true
 |t,d,a::c=>if a.eG<t\/(b:Int)<=a.eG then false else
  if t<a.eG then(if a.stmt=0 then nI b a.eG 1 c else false)else(if a.stmt=d then nI b t (d+1) c else false)
def xy(c:fJ)(a:Int)(rw:Bool):Bool:=match wU c.fQ a with|some b=>b.rW==rw|none=>false
def vY(a:fJ):Bool:=decide (a.cells.length<=12)&&decide (a.fQ.length<=4)&&decide (a.je.length<=2)&&decide (a.fI.length<=2)&&decide (a.jL.length<=60)&&decide (1<=a.d8.length)&&decide (a.d8.length<=4)
def uI(a:fJ)(b:List (List Nat)):List (List Nat):=b++a.fQ.map (·.name)++a.je.map (·.name)++a.fI++a.d8
def FQ(a:fJ):Bool:=match jW a.cells with|none=>false|some b=>zL (uI a b)
def li(a:fJ):Bool:=vY a&&FQ a&&(a.je.all λb=>xy a b.mN false)&&nI a.d8.length 0 0 a.jL
def As(c:fJ)(b:Int):Bool:=match wU c.cells b with|some a=>decide (a.size=0)|none=>false
def Eo(d:fJ)(b c:Int):Bool:=match wU d.cells b with|some a=>decide (a.index=0)&& !decide (a.size=0)&&decide (a.size=c)|none=>false
def jT(d:iN):List Int:=
 if d.op=1\/d.op=6\/d.op=10\/d.op=27 then [d.a]else if d.op=2\/d.op=3 then [d.a,d.b]else if d.op=4 then [d.a,d.b,d.c]
 else if d.op=7 then [d.a,d.c]else if d.op=8\/d.op=26 then [d.b]else if d.op=9 then [d.b,d.c]else []
def oF(d:fJ)(c:iN):Bool:=
 if c.op=6 then As d c.b else if c.op=8 then As d c.a else if c.op=7 then Eo d c.b c.n else if c.op=9 then Eo d c.a c.n
 else if c.op=11\/c.op=12 then xy d c.a false else if c.op=13\/c.op=14\/c.op=15\/c.op=16 then xy d c.a true
 else if c.op=21\/c.op=22\/c.op=23 then jx c.a d.je.length else if c.op=24\/c.op=25 then jx c.a d.d8.length
 else if c.op=26 then jx c.a d.fI.length else if c.op=27 then jx c.b d.fI.length
 else if c.op=3 then decide (c.n=4\/c.n=5)else if c.op=4 then decide (6<=c.n/\c.n<=18)else true
def Ar(a:Int):Bool:=decide (1<=a/\a<=5)
def ON(b:iN)(c:Int):Int:=if b.op=5 then b.a else c+1
def Ha(c:List iN):Nat->Int->Bool
 |0,_=>false
 |m+1,b=>match wU c b with
  |none=>false
  |some a=>if Ar a.op=true then Ha c m (ON a b)else true
def Dj(a:ew):Bool:=decide (a.jq=3)||decide (a.jq=4)
def KI{b a:Type}(e:b->a->Bool)(f:List a->a->Bool)(d:b->a->b):List a->b->List a->Bool
 |_,_,[]=>true
 |pre,g,c::h=>(e g c&&f pre c)&&KI e f d (pre++[c]) (d g c) h
def SW{c a:Type}{g:c->a->Bool}{j:List a->a->Bool}{f:c->a->c}:∀(b h:List a) (e:c),KI g j f h e b->r7 g f e b=true:=by
 intro b;induction b with
 |nil=>intro _ _ _;rfl
 |cons k b i=>
  intro h e d;simp[KI,aC]at d;simp[r7,aC];exact⟨d.1.1,i _ _ d.2⟩
def Xv(b:List fR)(a:fR):Bool:=zj b a.eG a.nH&&zj b a.eG a.vU
def tc(a:fJ)(b:List fR):Bool:=decide (b.length<=400)&&li a&&KI (tN a) Xv (lA a) [] (kR a) b
def C0{b:fJ}{c:List fR}(a:tc b c):runs b (kR b) c/\b.d8.length<=4/\c.length<=400:=by unfold tc at a;simp[aC,aO]at a;refine⟨SW _ _ _ a.2,?_,a.1.1⟩;have d:=a.1.2;unfold li vY at d;simp[aC,aO]at d;omega
structure uM(N:Nat)(s:gh):Prop where
 l:s.gH.fQ.length<=1000/\s.gH.done.length<=1000/\s.gH.d8.length<=1000/\s.cells.length<=1000/\s.fI.length<=1000/\s.count.length<=1000
 r:∀l∈s.gH.fQ,l.fZ.length<=N
 a:s.gH.C9
 c:∀c∈s.count,-N<=c/\c<=N
def uM.up{e Mq:Nat}{f:gh}(b:uM e f)(i:e<=Mq):uM Mq f:=⟨b.l,λh d=>iH (b.r h d),b.a,λg d=>iH (b.c g d)⟩
def act{b:Nat}{c:iq}{i:Int}{d:fk->fk}(e:∀a∈c.fQ,a.fZ.length<=b)(g:∀a∈c.fQ,(d a).fZ.length<=b+1):∀a∈(c.uj i d).fQ,a.fZ.length<=b+1:=by
 intro a hl;rcases mem_modify hl with f|⟨j,h,rfl⟩
 have:=e a f;omega;exact g j h
def Jt{d:Nat}{j:iq}(k:∀a∈j.fQ,a.fZ.length<=d)(p:fJ)(h m n q:Int):∀a∈(gY p j h m n q).1.fQ,a.fZ.length<=d+1:=by
 have c:∀a∈j.fQ,a.fZ.length<=d+1:=λa o=>iH (k a o);have l:∀(f:Int) (b:fk->fk),(∀a,(b a).fZ=a.fZ\/(b a).fZ=nW a.fZ h\/(b a).fZ=a.fZ.filter λg=> !decide (g=h))->∀a∈(j.uj f b).fQ,a.fZ.length<=d+1:=λf b i=>act k λa hl=>by
  have r:=k a hl;rcases i a with e|e|e<;>rw[e]
  omega;have:=Mr a.fZ h;omega;have:=List.length_filter_le (λg=> !decide (g=h)) a.fZ;omega
 exact yz (P:=λg=>∀a∈g.1.fQ,a.fZ.length<=d+1) c c (λ_ _ _=>c) (λf b i=>⟨l f b i,λ_ _=>l f b i⟩) (λ_=>c) (λ_ _=>c) (λ_=>c)
def Rj(a:Nat):uM a wH:=⟨by simp[wH],by simp[wH],by intro b hl;simp[wH]at hl,by simp[wH]⟩
def uM.step{e:Nat}{f:gh}(d:uM e f)(h:fJ)(b:fR):uM (e+1) (kP h f b).1:=by unfold kP;split;have hl:=yx h f.gH b.eG b.fc b.obj (mZ b);have⟨l1,l2,l3,l4,l5,l6⟩:=d.l;refine⟨⟨by show(gY ..).1.fQ.length<=_;omega,by show(gY ..).1.done.length<=_;omega,by show(gY ..).1.d8.length<=_;omega,?_,?_,?_⟩,Jt d.r _ _ _ _ _,yy d.a _ _ _ _ _,λg i=>?_⟩;unfold lA;simp only;split<;>simp[l4];unfold lA;simp only;split<;>simp[l5];unfold lA;simp[l6];rcases mem_modify (show g∈f.count.modify b.eG.toNat (· +1)from i)with k|⟨m,j,rfl⟩;have:=d.c g k;omega;have:=d.c m j;omega;exact(Rj e).up (Nat.le_succ e)
def uM.rV{w:fJ}:∀(a:List fR) {b:Nat} {c:gh},uM b c->uM (b+a.length) (rV w c a):=by
 intro a;induction a with
 |nil=>intro b c d;exact d
 |cons e a f=>
  intro b c d;have:=f (d.step w e);rw[show b+1+a.length=b+(e::a).length by simp;omega]at this;exact this
def xS(a:fJ)(d:a.fQ.length<=1000/\a.fI.length<=1000/\a.d8.length<=1000/\a.cells.length<=1000):uM 0 (kR a):=by refine⟨by simp[kR,m8];omega,λe hl=>?_,vX a,λc b=>?_⟩;simp[kR,m8]at hl;obtain⟨_,rfl⟩:=hl;simp;simp[kR]at b;omega
end
end Go.Proofs.YtnfojkibhgjfmaaGreatDoor
namespace Go.TI
noncomputable section
section
attribute [-simp] fU fH
section
def gT(a:Bool)(b:T):T:=match a with|true=>b|false=> .undef
def mgT(a:Bool)(b c:T):T:=match a with|true=>b|false=>c
@[simp]theorem agv (b:Bool) (a:T):mgT b a a=a:=by cases b<;>rfl
@[simp]theorem ak7 (a:Bool) (b:T):mgT a b .undef=gT a b:=by cases a<;>rfl
@[simp]theorem ak6 (a:Bool) (b:T):mgT a .undef b=gT (!a) b:=by cases a<;>rfl
@[simp]theorem ak8 (a b c:Bool):mgT a (.ej b) (.ej c)= .ej (bif a then b else c):=by cases a<;>rfl
def mgV(a:Bool)(b c:iP):iP:=match a with|true=>b|false=>c
@[simp]theorem agt (b:Bool) (a:iP):mgV b a a=a:=by cases b<;>rfl
@[simp]theorem agu (a:Bool) (b:Nat) (e g:T) (c d:iP):mgV a (.cons b e c) (.cons b g d)= .cons b (mgT a e g) (mgV a c d):=by cases a<;>rfl
def yO:iP->Nat->T->iP
 | .nil,_,_=> .nil
 | .cons a e b,c,d=>if a=c then .cons a d b else .cons a e (yO b c d)
@[simp]def RB (a c:Nat) (e d:T) (b:iP):yO (.cons a e b) c d=if a=c then .cons a d b else .cons a e (yO b c d):=a9
def w7:∀{c:iP} {b:Nat} {d:T},Y c b=D d->yO c b d=c
 | .nil,_,_,_=>rfl
 | .cons e i g,b,d,h=>by
  rw[ot]at h;rw[RB];by_cases a:e=b;rw[ax a]at h;simp[ay]at h;rw[ax a,h];rw[aw a]at h;rw[aw a,w7 h]
def Ic(a:Nat):List Oper->List Oper
 | []=>[]
 |o::c=>match o.guard with|some (b,_)=>if a<=b then o::Ic a c else []|none=>[]
def QB(b:Nat):List Oper->List Oper
 | []=>[]
 |o::a=>match o.guard with|some (c,_)=>if b<=c then QB b a else o::a|none=>o::a
def TK(b:Nat):∀a,Ic b a++QB b a=a
 | []=>rfl
 |o::a=>by
  unfold Ic QB;rcases o.guard with _|c
  rfl;simp only;split;rw[cg,TK b a];rfl
section
variable {cx:Ctx}{cf:jU}{M:Nat}
def ak0 (c:Nat) (b:aa Tmp) (e:Op) (i:ab) (g:String) (a:af Edge) (d:List Oper):Ic c (⟨b,e,i,g,a,none⟩::d)=[]:=a9
def alh (i:Nat) (b:aa Tmp) (d:Op) (g:ab) (e:String) (a:af Edge) (c:List Oper):QB i (⟨b,d,g,e,a,none⟩::c)=⟨b,d,g,e,a,none⟩::c:=a9
def ak1 (a b:Nat) (d:Bool) (e:aa Tmp) (i:Op) (k:ab) (j:String) (c:af Edge) (g:List Oper):Ic a (⟨e,i,k,j,c,some (b,d)⟩::g)=if a<=b then⟨e,i,k,j,c,some (b,d)⟩::Ic a g else []:=a9
def ali (a b:Nat) (e:Bool) (g:aa Tmp) (i:Op) (k:ab) (j:String) (d:af Edge) (c:List Oper):QB a (⟨g,i,k,j,d,some (b,e)⟩::c)=if a<=b then QB a c else⟨g,i,k,j,d,some (b,e)⟩::c:=a9
attribute [simp] ak0 alh ak1 ali
def zi(a:af Oper)(c:Oper)(g:List Oper)(b:Env)(h:H):
 mo cx cf M a (c::g) b h=Z (B7 cx cf M a b h c) λi=>two i λj e=>Z (b.dst M c.dst j) λd=>mo cx cf M a g d e:=by
 show(Z (nj cx cf M a b h c) λi=>two i λd e=>mo cx cf M a g d e)=_;rw[uE]
def wJ(b:af Oper):∀(c d:List Oper) (a:Env) (h:H),mo cx cf M b (c++d) a h=Z (mo cx cf M b c a h) λi=>two i λe g=>mo cx cf M b d e g
 | [],_,_,_=>rfl
 |o::c,d,a,h=>by
  rw[cg,zi,zi];rcases B7 cx cf M b a h o with _|i
  rfl;obtain⟨j,g⟩:=i;simp[fj,m6];rcases a.dst M o.dst j with _|e;rfl;simp[fj];exact wJ b c d e g
def uF(cx:Ctx)(cf:jU)(M:Nat)(b:af Oper)(a:List Oper)(d c:iP)(h:H):aa (Env×H):=mo cx cf M b a ⟨d,c⟩ h
def SG(l:aa (T×H))(cx:Ctx)(cf:jU)(M:Nat)(e:af Oper)(a:aa Tmp)(d:List Oper)(k i:iP):aa (Env×H):=
 Z l λg=>two g λj c=>Z (Env.dst M ⟨k,i⟩ a j) λb=>mo cx cf M e d b c
@[simp]def afC (c:af Oper) (b a:iP) (h:H):uF cx cf M c [] b a h=D (⟨b,a⟩,h):=a9
def VX(d b:iP)(a:Tmp)(c:T):Env.dst M ⟨d,b⟩ (some a) c=D (if(M>>>a)&&&1=1 then⟨put d a c,b⟩else⟨d,.cons a c b⟩):=by show @Bool.rec (λ_=>aa Env) (some ⟨d,.cons a c b⟩) (Z (nL d a c) λe=>some ⟨e,b⟩) (lL M a)=_;rw[sj];have:=G9 M a;cases hl:lL M a;rw[aw (by rw[<-this,hl];simp)];rw[ax (this▸hl)];rfl
@[simp]theorem ai9 (e:T) (h:H) (c:af Oper) (a:Tmp) (b:List Oper) (g d:iP):SG (some (e,h)) cx cf M c (some a) b g d=
 if(M>>>a)&&&1=1 then uF cx cf M c b (put g a e) d h else uF cx cf M c b g (.cons a e d) h:=by
 unfold SG;rw[fj,m6,VX,fj];split<;>rfl
def G3(o:aa Tmp)(i:aa Bool)(m:Nat)(l:Bool)(cx:Ctx)(cf:jU)(M:Nat)(g:af Oper)(c:aa Tmp)(e:Op)(p:ab)(n:String)(k:af Edge)(d:List Oper)(b a:iP)(h:H):aa (Env×H):=
 SG (Z i λj=> @Bool.rec (λ_=>aa (T×H)) (some (.undef,h)) (fin cf h (ka e cx M ⟨b,a⟩ h)) j) cx cf M g c d b a
def NR(a:af Oper)(j:aa Tmp)(k:Op)(m:ab)(l:String)(i:af Edge)(c:Nat)(b:Bool)(d:List Oper)(g e:iP)(h:H)(n:aa Tmp):
 uF cx cf M a (⟨j,k,m,l,i,some (c,b)⟩::d) g e h=G3 n (md a M ⟨g,e⟩ (some (c,b))) c b cx cf M a j k m l i d g e h:=zi a _ d _ h
@[simp]def Li (b:List Oper) (i:aa Tmp) (k:Op) (m:ab) (l:String) (g:af Edge) (a:Nat) (c:Bool) (j:List Oper) (e d:iP) (h:H):
 uF cx cf M b.toArray (⟨i,k,m,l,g,some (a,c)⟩::j) e d h=G3 (Z (b[a]?) λn=>n.dst) (md b.toArray M ⟨e,d⟩ (some (a,c))) a c cx cf M b.toArray i k m l g j e d h:=NR b.toArray i k m l g a c j e d h _
@[simp]def ajf (m:aa Tmp) (k:Nat) (j:Bool) (g:af Oper) (c:aa Tmp) (e:Op) (n:ab) (l:String) (i:af Edge) (d:List Oper) (b a:iP) (h:H):G3 m (some true) k j cx cf M g c e n l i d b a h=SG (fin cf h (ka e cx M ⟨b,a⟩ h)) cx cf M g c d b a:=a9
@[simp]def ahP (m:aa Tmp) (j:Nat) (i:Bool) (c:af Oper) (a:aa Tmp) (k:Op) (n:ab) (l:String) (g:af Edge) (b:List Oper) (e d:iP) (h:H):G3 m (some false) j i cx cf M c a k n l g b e d h=SG (some (.undef,h)) cx cf M c a b e d:=a9
def BGo(a:Bool)(g i:aa (Env×H))(cx:Ctx)(cf:jU)(M:Nat)(c:af Oper)(e:List Oper):aa (Env×H):=Z (bif a then g else i) λd=>two d λb h=>mo cx cf M c e b h
@[congr] theorem aev {a b:Bool} {g i j k:aa (Env×H)} {c:af Oper} {d e:List Oper} (l:a=b) (m:g=i) (n:j=k) (hr:d=e):BGo a g j cx cf M c d=BGo b i k cx cf M c e:=by rw[l,m,n,hr]
@[simp]theorem ajm (a:Bool) (g d i e:iP) (h:H) (b:af Oper) (c:List Oper):BGo a (some (⟨g,d⟩,h)) (some (⟨i,e⟩,h)) cx cf M b c=uF cx cf M b c (mgV a g i) (mgV a d e) h:=by cases a<;>rfl
def Qz{e c:iP}{a:Tmp}{d:T}(g:(M>>>a)&&&1=0)(b:Env.get M ⟨e,c⟩ a=D d):Y c a=D d:=by rw[Fy,aw G]at b;exact b
def TX{b:List Oper}{g:Tmp}{i:Bool}{a:List Oper}{d c:iP}{h:H}(e:Nat)(n:(M>>>g)&&&1=0)(m:Env.get M ⟨d,c⟩ g=D (.ej i)):
 uF cx cf M b.toArray a d c h=BGo i (uF cx cf M b.toArray (Ic e a) d (yO c g (.ej true)) h) (uF cx cf M b.toArray (Ic e a) d (yO c g (.ej false)) h) cx cf M b.toArray (QB e a):=by
 have j:=Qz n m;have:uF cx cf M b.toArray a d c h=Z (uF cx cf M b.toArray (Ic e a) d c h) λo=>two o λk l=>mo cx cf M b.toArray (QB e a) k l:=by
  show mo cx cf M b.toArray a ⟨d,c⟩ h=_
  conv=>lhs;rw[<-TK e a]
  exact wJ _ _ _ _ _
 rw[this];cases i
 .conv=>lhs;rw[<-w7 j]
  rfl
 .conv=>lhs;rw[<-w7 j]
  rfl
def Xj(d:List Oper)(b:Tmp)(o:Bool)(a:Nat)(c:Bool)(g:aa Tmp)(j:Op)(l:ab)(k:String)(e:af Edge)(i:List Oper)(n m:iP)(h:H)(r:Bool)
 (s:(M>>>b)&&&1=0) (p:(Z (d[a]?) λu=>u.dst)=D b) (q:Env.get M ⟨n,m⟩ b=D (.ej o)) (t:r=(o==c)):
 G3 (some b) (some r) a c cx cf M d.toArray g j l k e i n m h=
  BGo o (uF cx cf M d.toArray (Ic a (⟨g,j,l,k,e,some (a,c)⟩::i)) n (yO m b (.ej true)) h) (uF cx cf M d.toArray (Ic a (⟨g,j,l,k,e,some (a,c)⟩::i)) n (yO m b (.ej false)) h) cx cf M d.toArray (QB a (⟨g,j,l,k,e,some (a,c)⟩::i)):=by
 subst t;rw[<-TX a s q,Li,p,FV,p,fj,q,FU]
@[simp low] theorem ajg (c:List Oper) (b:Tmp) (e:Bool) (a:Nat) (g:aa Tmp) (j:Op) (l:ab) (k:String) (d:af Edge) (i:List Oper) (n m:iP) (h:H)
 (q:(M>>>b)&&&1=0) (o:(Z (c[a]?) λr=>r.dst)=D b) (p:Env.get M ⟨n,m⟩ b=D (.ej e)):
 G3 (some b) (some e) a true cx cf M c.toArray g j l k d i n m h=
  BGo e (uF cx cf M c.toArray (Ic a (⟨g,j,l,k,d,some (a,true)⟩::i)) n (yO m b (.ej true)) h) (uF cx cf M c.toArray (Ic a (⟨g,j,l,k,d,some (a,true)⟩::i)) n (yO m b (.ej false)) h) cx cf M c.toArray (QB a (⟨g,j,l,k,d,some (a,true)⟩::i)):=
 Xj c b e a true g j l k d i n m h e q o p V 
@[simp low] theorem ajh (d:List Oper) (b:Tmp) (c:Bool) (a:Nat) (g:aa Tmp) (j:Op) (l:ab) (k:String) (e:af Edge) (i:List Oper) (n m:iP) (h:H)
 (q:(M>>>b)&&&1=0) (o:(Z (d[a]?) λr=>r.dst)=D b) (p:Env.get M ⟨n,m⟩ b=D (.ej !c)):
 G3 (some b) (some c) a false cx cf M d.toArray g j l k e i n m h=
  BGo (!c) (uF cx cf M d.toArray (Ic a (⟨g,j,l,k,e,some (a,false)⟩::i)) n (yO m b (.ej true)) h) (uF cx cf M d.toArray (Ic a (⟨g,j,l,k,e,some (a,false)⟩::i)) n (yO m b (.ej false)) h) cx cf M d.toArray (QB a (⟨g,j,l,k,e,some (a,false)⟩::i)):=
 Xj d b (!c) a false g j l k e i n m h c q o p (by cases c<;>rfl)
def G2(o:aa Tmp)(j:aa Bool)(m:Nat)(l:Bool)(cx:Ctx)(cf:jU)(M:Nat)(e:af Oper)(b:aa Tmp)(d:Op)(p:ab)(n:String)(k:af Edge)(c:List Oper)(i g:iP)(h:H)(a:jD):Prop:=GK j cx cf M e b d c i g h a
@[simp]def Ti (b:List Oper) (j:aa Tmp) (l:Op) (n:ab) (m:String) (i:af Edge) (a:Nat) (c:Bool) (k:List Oper) (e d:iP) (h:H) (g:jD):
 RK cx cf M b.toArray (⟨j,l,n,m,i,some (a,c)⟩::k) e d h g=G2 (Z (b[a]?) λo=>o.dst) (md b.toArray M ⟨e,d⟩ (some (a,c))) a c cx cf M b.toArray j l n m i k e d h g:=fU b.toArray j l n m i a c k e d h g
@[simp]def aji (n:aa Tmp) (l:Nat) (k:Bool) (i:af Oper) (d:aa Tmp) (g:Op) (o:ab) (m:String) (j:af Edge) (e:List Oper) (b a:iP) (h:H) (c:jD):G2 n (some true) l k cx cf M i d g o m j e b a h c=XK (fin cf h (ka g cx M ⟨b,a⟩ h)) cx cf M i d e b a c:=a9
@[simp]theorem ahQ (n:aa Tmp) (k:Nat) (j:Bool) (d:af Oper) (b:aa Tmp) (l:Op) (o:ab) (m:String) (i:af Edge) (c:List Oper) (g e:iP) (h:H) (a:jD):G2 n (some false) k j cx cf M d b l o m i c g e h a=XK (some (.undef,h)) cx cf M d b c g e a:=by unfold XK;rw[Dc];rfl
def BG(c:Bool)(g i:aa (Env×H))(cx:Ctx)(cf:jU)(M:Nat)(d:af Oper)(e:List Oper)(b:jD):Prop:=
 (c->∃a h,g=D (a,h)/\RK cx cf M d e a.vars a.tmps h b)/\(c=false->∃a h,i=D (a,h)/\RK cx cf M d e a.vars a.tmps h b)
@[congr] theorem ahY {b c:Bool} {i j k l:aa (Env×H)} {d:af Oper} {e g:List Oper} {a:jD} (m:b=c) (n:i=j) (o:k=l) (hr:e=g):BG b i k cx cf M d e a=BG c j l cx cf M d g a:=by rw[m,n,o,hr]
@[simp]def akQ (c:Bool) (k i l j:iP) (h:H) (e:af Oper) (g:List Oper) (d:jD):BG c (some (⟨k,i⟩,h)) (some (⟨l,j⟩,h)) cx cf M e g d=RK cx cf M e g (mgV c k l) (mgV c i j) h d:=by unfold BG;apply propext;cases c;constructor;intro a;have⟨m,n,b,hr⟩:=a.2 rfl;simp[ay,aI]at b;obtain⟨rfl,rfl⟩:=b;exact hr;exact λa=>⟨λo=>by grind,λ_=>⟨_,_,rfl,a⟩⟩;constructor;intro a;have⟨m,n,b,hr⟩:=a.1 rfl;simp[ay,aI]at b;obtain⟨rfl,rfl⟩:=b;exact hr;exact λa=>⟨λ_=>⟨_,_,rfl,a⟩,λo=>by grind⟩
def adB(e:af Oper)(g q:List Oper)(j i:iP)(h:H)(k:jD):RK cx cf M e (g++q) j i h k=∃l a,uF cx cf M e g j i h=D (l,a)/\RK cx cf M e q l.vars l.tmps a k:=by apply propext;show(∃b a,mo cx cf M e (g++q) ⟨j,i⟩ h=D (b,a)/\k.n ⟨b.vars,.nil⟩ a)↔_;rw[wJ];constructor;rintro⟨b,a,c,p⟩;have⟨⟨m,o⟩,d,c⟩:=ed.1 c;exact⟨m,o,d,b,a,c,p⟩;rintro⟨m,o,d,b,a,c,p⟩;have d:mo cx cf M e g ⟨j,i⟩ h=D (m,o):=d;exact⟨b,a,d▸c,p⟩
def Xk(i:List Oper)(k:Tmp)(o:Bool)(a:Nat)(b:Bool)(d:aa Tmp)(g:Op)(l:ab)(j:String)(c:af Edge)(e:List Oper)(n m:iP)(h:H)(p:jD)(t:Bool)
 (v:(M>>>k)&&&1=0) (q:(Z (i[a]?) λx=>x.dst)=D k) (r:Env.get M ⟨n,m⟩ k=D (.ej o)) (w:t=(o==b)):
 G2 (some k) (some t) a b cx cf M i.toArray d g l j c e n m h p=
  BG o (uF cx cf M i.toArray (Ic a (⟨d,g,l,j,c,some (a,b)⟩::e)) n (yO m k (.ej true)) h) (uF cx cf M i.toArray (Ic a (⟨d,g,l,j,c,some (a,b)⟩::e)) n (yO m k (.ej false)) h) cx cf M i.toArray (QB a (⟨d,g,l,j,c,some (a,b)⟩::e)) p:=by
 subst w;have s:=Qz v r;have u:G2 (some k) (some (o==b)) a b cx cf M i.toArray d g l j c e n m h p=RK cx cf M i.toArray (⟨d,g,l,j,c,some (a,b)⟩::e) n m h p:=by
  rw[Ti,q,FV,q,fj,r,FU]
 rw[u]
 conv=>lhs;rw[<-TK a (⟨d,g,l,j,c,some (a,b)⟩::e)]
 rw[adB];unfold BG;apply propext;cases o
 .conv=>lhs;rw[<-w7 s]
  simp
 .conv=>lhs;rw[<-w7 s]
  simp
@[simp low] theorem ajj (c:List Oper) (b:Tmp) (e:Bool) (a:Nat) (g:aa Tmp) (j:Op) (l:ab) (k:String) (d:af Edge) (i:List Oper) (n m:iP) (h:H) (o:jD)
 (r:(M>>>b)&&&1=0) (p:(Z (c[a]?) λs=>s.dst)=D b) (q:Env.get M ⟨n,m⟩ b=D (.ej e)):
 G2 (some b) (some e) a true cx cf M c.toArray g j l k d i n m h o=
  BG e (uF cx cf M c.toArray (Ic a (⟨g,j,l,k,d,some (a,true)⟩::i)) n (yO m b (.ej true)) h) (uF cx cf M c.toArray (Ic a (⟨g,j,l,k,d,some (a,true)⟩::i)) n (yO m b (.ej false)) h) cx cf M c.toArray (QB a (⟨g,j,l,k,d,some (a,true)⟩::i)) o:=
 Xk c b e a true g j l k d i n m h o e r p q V 
@[simp low] theorem ajk (d:List Oper) (b:Tmp) (c:Bool) (a:Nat) (g:aa Tmp) (j:Op) (l:ab) (k:String) (e:af Edge) (i:List Oper) (n m:iP) (h:H) (o:jD)
 (r:(M>>>b)&&&1=0) (p:(Z (d[a]?) λs=>s.dst)=D b) (q:Env.get M ⟨n,m⟩ b=D (.ej !c)):
 G2 (some b) (some c) a false cx cf M d.toArray g j l k e i n m h o=
  BG (!c) (uF cx cf M d.toArray (Ic a (⟨g,j,l,k,e,some (a,false)⟩::i)) n (yO m b (.ej true)) h) (uF cx cf M d.toArray (Ic a (⟨g,j,l,k,e,some (a,false)⟩::i)) n (yO m b (.ej false)) h) cx cf M d.toArray (QB a (⟨g,j,l,k,e,some (a,false)⟩::i)) o:=
 Xk d b (!c) a false g j l k e i n m h o c r p q (by cases c<;>rfl)
def adH{c:Bool}{g i:aa (Env×H)}{d:af Oper}{e:List Oper}{b:jD}(j:c->∃a h,g=D (a,h)/\RK cx cf M d e a.vars a.tmps h b)(k:c=false->∃a h,i=D (a,h)/\RK cx cf M d e a.vars a.tmps h b):BG c g i cx cf M d e b:=⟨j,k⟩
def N6{a d e:Bool}{h:H}{b c:aa ni}(g:a->b=be (.ej d) h)(i:a=false->c=be (.ej e) h):py (some (.ej a)) b c=be (.ej (bif a then d else e)) h:=by cases a;exact i rfl;exact g rfl
@[simp]def aib (a b:aa ni):py (some (.ej true)) a b=a:=a9
@[simp]def afS (b a:aa ni):py (some (.ej false)) b a=a:=a9
@[simp]def ak4 (a b c:Bool) (h:H):py (some (.ej a)) (be (.ej b) h) (be (.ej c) h)=be (.ej (bif a then b else c)) h:=N6 (λ_=>rfl) (λ_=>rfl)
@[simp]def ak3 (a c d b:Bool) (h:H) (g:a=false->b):py (some (.ej a)) (be (.ej c) h) (be (gT b (.ej d)) h)=be (.ej (bif a then c else d)) h:=N6 (λ_=>rfl) (λe=>by rw[g e];rfl)
@[simp]def ak2 (a c d b:Bool) (h:H) (g:a->b):py (some (.ej a)) (be (gT b (.ej c)) h) (be (.ej d) h)=be (.ej (bif a then c else d)) h:=N6 (λe=>by rw[g e];rfl) (λ_=>rfl)
end
def lU(th:aj->aa mU):Op->Bool
 | .move _| .assign _| .pick .. | .load .. | .nilCheck _| .unOp .. | .binOp .. | .fieldAddr .. | .field .. | .indexAddr .. | .index .. | .extract .. | .slice .. =>true
 | .call b=>(match b.callee with
  | .builtin a=>(match a with| .len| .min| .max=>true|_=>false)
  | .value c=>(match c with| .func f=>(th f).isNone|_=>false)
  |_=>false)
 |_=>false
section
variable {th:aj->aa mU}
def ah8 (a:ah):lU th (.move a)=true:=a9
def adS (a:ah):lU th (.assign a)=true:=a9
def ah7 (a b c:ah):lU th (.pick a b c)=true:=a9
def ah9 (a:ab) (b:ah):lU th (.load a b)=true:=a9
def aap (a:ah):lU th (.nilCheck a)=true:=a9
def ah6 (a:UnOp) (b:ab) (c:ah):lU th (.unOp a b c)=true:=a9
def afO (a:BinOp) (b:ab) (d e:ah) (c:ab):lU th (.binOp a b d e c)=true:=a9
def X0 (a:ab) (b:ah) (f:Nat):lU th (.fieldAddr a b f)=true:=a9
def afL (a:ab) (b:ah) (f:Nat):lU th (.field a b f)=true:=a9
def XZ (a:ab) (b c:ah):lU th (.indexAddr a b c)=true:=a9
def abH (b:ah) (a:Nat):lU th (.extract b a)=true:=a9
def afK (d:ab) (e:ah) (a b c:aa ah):lU th (.slice d e a b c)=true:=a9
def afM (f:aj) (a:af ah) (b:af ab):lU th (.call ⟨.value (.func f),a,b⟩)=(th f).isNone:=a9
def ajI (a:af ah) (b:af ab):lU th (.call ⟨.builtin .len,a,b⟩)=true:=a9
def ajH (a:af ah) (b:af ab):lU th (.call ⟨.builtin .min,a,b⟩)=true:=a9
def afP (a:ab):lU th (.alloc a)=false:=a9
def afJ (a:ab) (b c:ah):lU th (.store a b c)=false:=a9
def afN (b:ab) (a:af (Nat×ah)):lU th (.build b a)=false:=a9
def Xx (c:ab) (a:Nat) (b:af (Nat×ah)):lU th (.buildSlice c a b)=false:=a9
attribute [simp] ah8 adS ah7 ah9 aap ah6 afO X0 afL XZ abH afK afM ajI ajH afP afJ afN Xx
end
def Kp(th:aj->aa mU)(h:H)(e:aa ni):Prop:=∀a,e=D a->(∀d b,a= .val d b->b=h)/\∀f c,a= .call f c->th f=none
section
variable {th:aj->aa mU}{h:H}
theorem Kp.val(b:aa T):Kp th h (val h b):=by
 intro c a;have⟨d,_,a⟩:=ed.1 a
 grind
def Kp.one(a:T):Kp th h (be a h):=Kp.val (some a)
theorem Kp.none:Kp th h none:=by intro a b;grind
theorem Kp.Z{α:Type}{e:aa α}{f:α->aa ni}(d:∀a,Kp th h (f a)):Kp th h (Z e f):=by intro c b;have⟨a,_,b⟩:=ed.1 b;exact d a c b
theorem Kp.iT{b:Bool}{a:aa ni}(e:Kp th h a):Kp th h (iT b a):=by intro c d;exact e c (fh.1 d).2
def abS{m:Op}(e:lU th m)(cx:Ctx)(M:Nat)(s:Env):Kp th h (ka m cx M s h):=by
 cases m<;>first|(simp[lU]at e;done)|skip
 case move x=>exact Kp.val _
 case assign x=>exact Kp.val _
 case pick k n j=>
  rw[Yy];unfold py;refine Kp.Z λa=>?_;cases a<;>first|exact Kp.none|grind [Kp.val]
 case load b n=>simp[Kp.val,Kp.Z]
 case nilCheck x=>exact Kp.Z λa=>by cases a<;>first|exact Kp.none|exact Kp.one _
 case unOp i b x=>simp[Kp.val,Kp.Z]
 case binOp i b x p E=>
  cases i<;>first
   |exact Kp.Z λ_=>Kp.Z λ_=>Kp.val _
   |exact Kp.Z λ_=>Kp.Z λ_=>Kp.Z λ_=>Kp.iT (Kp.Z λ_=>Kp.val _)
 case fieldAddr b x f=>
  exact Kp.Z λt=>Kp.Z λa=>by
   cases a<;>first|exact Kp.none|exact Kp.Z λ_=>Kp.one _
 case field b x f=>
  exact Kp.Z λt=>Kp.Z λ_=>Kp.Z λa=>by
   cases a<;>first|exact Kp.none|simp[Kp.val,Kp.Z]
 case indexAddr b x g=>
  exact Kp.Z λd=>Kp.Z λa=>Kp.Z λ_=>Kp.Z λg=>by
   cases d.u<;>first|exact Kp.none|(refine Kp.Z λv=>?_;first
    |(cases a<;>first|exact Kp.none|exact Kp.Z λ_=>Kp.iT (Kp.one _)|exact Kp.iT (Kp.Z λ_=>Kp.iT (Kp.iT (Kp.Z λ_=>Kp.one _))))
    |(refine Kp.iT ?_;cases a<;>first|exact Kp.none|exact Kp.Z λ_=>Kp.one _|(refine Kp.Z λq=>?_;cases aq q.sz v.size<;>first|exact Kp.Z λ_=>Kp.one _|simp[Kp.one,Kp.iT])))
 case index b x g=>
  exact Kp.Z λd=>Kp.Z λa=>Kp.Z λ_=>Kp.Z λg=>by
   cases d.u<;>first|exact Kp.none|(cases a<;>first|exact Kp.none|exact Kp.Z λ_=>Kp.val _|grind [Kp.val,Kp.Z,Kp.iT])
 case extract x g=>exact Kp.Z λa=>by cases a<;>first|exact Kp.none|exact Kp.val _
 case slice b x n j k=>exact Kp.Z λ_=>Kp.Z λ_=>Kp.iT (Kp.Z λ_=>Kp.Z λ_=>Kp.Z λ_=>Kp.iT (Kp.val _))
 rename_i k;obtain⟨r,w,C⟩:=k;cases r with
 |builtin j=>
  refine Kp.Z λl=>?_;cases j<;>first
   |(simp[lU]at e;done)
   |(match l with
    | []=>exact Kp.none
    | [x]=>first|exact Kp.none|(refine Kp.Z λb=>Kp.Z λd=>?_;cases d.u<;>first|exact Kp.none|exact Kp.val _|(cases x<;>first|exact Kp.none|exact Kp.val _))
    | [x,p]=>first|exact Kp.val _|exact Kp.none
    |x::p::F::l=>exact Kp.none)
 |value i=>
  cases i with
  |func f=>
   have z:(th f).isNone:=e;refine Kp.Z λl=>?_;intro y c;obtain⟨a,o,c⟩:=ed.1 c;simp[RS,ay]at o;subst o;obtain⟨B,_,c⟩:=ed.1 c;cases c;simp_all
  |_=>simp[lU]at e
 |_=>grind [lU]
end
section
variable {P:ai}{cx:Ctx}{tb:ik}{M:Nat}
def VT{j:Op}(o:lU tb.h j){e:Env}{h:H}{k:T}{c:H}(a:fin (rY P cx tb) h (ka j cx M e h)=D (k,c)):c=h:=by
 have⟨d,m,a⟩:=ed.1 a;have⟨r,p⟩:=abS o cx M e d m;rcases d with⟨t,q⟩|⟨f,b⟩;simp[ay,aI]at a;rw[<-a.2];grind;have n:=p _ _ rfl;have a:rY P cx tb f b h=D (k,c):=a;have g:hl P cx tb f b h=none:=by unfold hl;rw[n]
 rw[Wi]at a;rcases i:WN h b with _|l
 rw[i,Wg,g]at a;grind;rw[i,Wf,g]at a;rcases hr:rl P cx tb f l with _|s
 rw[hr]at a;simp at a;rw[hr,Wh]at a
 grind
def HZ(j:af Oper)(k:List (Nat×Nat))(Q:iP->H->Prop):∀(g:List Oper) (e:Nat) (m:List (Nat×Nat)) (d:List (Nat×H×H)) (b a:iP) (h:H),(g.all λo=>lU tb.h o.op)->(∀l∈d,l.2.1=l.2.2)->
 Pt cx (rY P cx tb) M j k g e m d b a h Q=WR cx (rY P cx tb) M j g b a h Q
 | [],e,m,d,b,a,h,_,_=>by rw[Ra,Xc]
 |o::g,e,m,d,b,a,h,n,q=>by
  simp only[cA,aC]at n;rw[Ng,KY];unfold B7;rcases md j M ⟨b,a⟩ o.guard with _|C
  apply propext;constructor<;>(first|exact False.elim|(rintro⟨i,c,I,_⟩;simp_all));rw[fj];cases C;rw[Nh,Dc];congr 1;funext b a;exact HZ j k Q g _ m d b a h n.2 q;rw[Rb];apply propext;have K:∀i c,fin (rY P cx tb) h (ka o.op cx M ⟨b,a⟩ h)=D (i,c)->
   ((DK cx M k e m d o.op ⟨b,a⟩ h c λm d=>WD M o.dst i b a λb a=>Pt cx (rY P cx tb) M j k g (e+1) m d b a c Q)↔WD M o.dst i b a λb a=>WR cx (rY P cx tb) M j g b a c Q):=by
   intro i c y;have z:=VT n.1 y;subst z;have E:∀s,oU k e s d:=λs l n _=>by rw[q l n];simp
   have F:∀u v i,o.op≠ .store u v i:=λu v i B=>by have:=n.1;rw[B]at this;simp_all
   have t:∀r p,(∀l∈p,l.2.1=l.2.2)->((WD M o.dst i b a λb a=>Pt cx (rY P cx tb) M j k g (e+1) r p b a c Q)↔WD M o.dst i b a λb a=>WR cx (rY P cx tb) M j g b a c Q):=by
    intro r p w;rw[show(λb a=>Pt cx (rY P cx tb) M j k g (e+1) r p b a c Q)=λb a=>WR cx (rY P cx tb) M j g b a c Q from by funext b a;exact HZ j k Q g _ r p b a c n.2 w]
   unfold DK;split;rw[OZ];show(True/\_)/\(WD M o.dst i b a λb a=>Pt cx (rY P cx tb) M j k g (e+1) m (if nC k e=true then(e,c,c)::d else d) b a c Q)↔_;have x:∀l∈(if nC k e=true then(e,c,c)::d else d),l.2.1=l.2.2:=by
    grind
   rw[t _ _ x]
   grind
   rcases jd cx M ⟨b,a⟩ c o.op with _|s;exact t _ _ q;simp only;rw[t _ _ q];grind
  show(∃i c,_/\_)↔∃i c,_/\_
  grind
@[simp high] theorem ajb (a:List Oper) (d:List (Nat×Nat)) (b:iP) (h:H) (c:jD) (e:(a.all λg=>lU tb.h g.op)):QK cx (rY P cx tb) M a (some d) b h c=RK cx (rY P cx tb) M a.toArray a b .nil h c:=
 HZ a.toArray d (λb h=>c.n ⟨b,.nil⟩ h) a 0 [] [] b .nil h e (λj i=>by grind)
end
def Ia(b:T):Prop:=∃a,b= .int .i64 a
@[simp]def aik (a:Int):Ia (.int .i64 a)=True:=by simp[Ia]
section
variable {P:ai}{cx:Ctx}{f:aj}{α:Type}{A:α->List T}{pre:α->Prop}{Q:α->T->Prop}
noncomputable abbrev pI.jV(_:pI P cx f A pre Q):iE:=wR P cx f A pre Q
def pI.use(c:pI P cx f A pre Q)(a:α)(b:pre a):∃d,Q a d/\∀{tb:ik},tb.p f=D (wR P cx f A pre Q)->rl P cx tb f (A a)=D d:=⟨_,c.2 a b,λht=>iF ht c.1 a b⟩
end
section
variable {P:ai}{cx:Ctx}{f:aj}{α γ:Type}{A:α->List T}{pre:α->Prop}
def pI.fnI(d:pI P cx f A pre (λ_=>Ia))(b:γ->α)(c:∀a,pre (b a)):∃e:γ->Int,∀{tb:ik},tb.p f=D (wR P cx f A pre (λ_=>Ia))->∀a,rl P cx tb f (A (b a))=D (.int .i64 (e a)):=by refine⟨λa=>(d.2 (b a) (c a)).choose,λht a=>?_⟩;exact(iF ht d.1 (b a) (c a)).trans (cd some (d.2 (b a) (c a)).choose_spec)
end
@[simp]def aln (a:jI):iS 1 (hE.cons a)=True:=by simp;exact⟨V,V,V⟩
@[simp]def alm (a b:jI):iS 2 ((hE.cons a).cons b)=True:=by simp;exact⟨V,V,V⟩
@[simp]def alk (b c d a:jI):iS 4 ((((hE.cons b).cons c).cons d).cons a)=True:=by simp;exact⟨V,V,V⟩
def qI(a:ak)(b c:Int):binop .add (.int a b) (.int a c)=D (.int a (a.wrap (b+c))):=by show iT (H9 a a) (rk a (b+c))=_;simp
def tv(a:ak)(b c:Int):binop .sub (.int a b) (.int a c)=D (.int a (a.wrap (b-c))):=by show iT (H9 a a) (rk a (b-c))=_;simp
def ack(a:ak)(b c:Int):binop .mul (.int a b) (.int a c)=D (.int a (a.wrap (b*c))):=by show iT (H9 a a) (rk a (b*c))=_;simp
def Mn(c:T):Prop:=∃a b,c= .tuple [.int .i64 a,.int .i64 b]
@[simp]def ail (a b:Int):Mn (.tuple [.int .i64 a,.int .i64 b])=True:=by simp[Mn]
end
end
section
section
variable {cx:Ctx}{M:Nat}{e:Env}
@[simp]def acf (a:ak) (b:Int):qB (.int a b)=D (.int a b):=a9
@[simp]def aaL:qB (.slice none 0 0)=D (.em [] false):=a9
@[simp]def ace (a:ByteArray):qB (.string a)=D (.str (a.data.toList.map UInt8.toNat)):=UD (cx:=⟨λ_=>none,λ_=>none,λ_=>none⟩) (M:=0) (e:=⟨.nil,.nil⟩) a
@[simp]def afV (a:List am):iG cx M e (.const (.agg a.toArray))=Z (iK qB a) λb=>some (.eQ b):=a9
end
@[simp]theorem WJ (a:List T):fa (sl a)=none:=by cases a<;>rfl
def oT1 (a:T):kJ [a]=a:=a9
def oT2 (a b:T) (c:List T):kJ (a::b::c)= .tuple (a::b::c):=a9
def oT0:kJ []= .tuple []:=a9
def akp (a:H):(hr a).low=a.size:=a9
attribute [simp] oT1 oT2 oT0 akp
@[simp]def abC (a:H) (d f:jI) (b:Nat) (c:¬b=a.size):gJ (a.cons d) (a.cons f) b=true:=by unfold gJ;rw[fg,fg,aw c,aw c];cases a.get b<;>simp
def il{h h':H}{b:Nat}(a:h'.get b=h.get b):gJ h h' b=true:=by unfold gJ;rw[a];cases h.get b<;>simp
def Fp(d:H)(b a:Nat):Prop:=a=b\/∃c,d.get b=D c/\∃f∈ir c.gU,fa f=D a
structure Step(w:Nat)(h h':H):Prop where
 ok:iS h.size h'
 get:∀b,b<h.size->¬Fp h w b->h'.get b=h.get b
 fp:∀b,Fp h' w b->Fp h w b\/h.size<=b
theorem jN{c d:H}{a:Nat}(f:d.get a=c.get a)(b:Nat):Fp d a b=Fp c a b:=by unfold Fp;rw[f]
def Step.refl{d:Nat}{a:H}(b:iS 0 a):Step d a a:=⟨⟨b.hp,b.low,az _⟩,λ_ _ _=>rfl,λ_ c=> .inl c⟩
def Step.trans{g:Nat}{h d i:H}(a:Step g h d)(c:Step g d i):Step g h i:=by refine⟨⟨c.ok.hp,c.ok.low,aU a.ok.sz c.ok.sz⟩,λb f j=>?_,λb f=>?_⟩;have d:=a.get b f j;have:=a.ok.sz;rw[c.get b G (λk=>(a.fp b k).elim j λk=>absurd k G),d];rcases c.fp b f with k|k;exact a.fp b k;exact .inr (aU a.ok.sz k)
structure Lb(w:Nat)(h:H)(b:Nat)(x:jI):Prop where
 get:h.get b=D x
 nf:¬Fp h w b
def Lb.lt{d:Nat}{b:H}{a:Nat}{f:jI}(c:Lb d b a f):a<b.size:=H.fN c.get
def Lb.ne{a:Nat}{c:H}{b:Nat}{g:jI}(f:Lb a c b g):b≠a:=λd=>f.nf (.inl d)
def Lb.step{d:Nat}{f g:H}{b:Nat}{i:jI}(a:Lb d f b i)(h:Step d f g):Lb d g b i:=
 ⟨h.get b a.lt a.nf▸a.get,λc=>(h.fp b c).elim a.nf λc=>absurd c (iH a.lt)⟩
theorem Step.cons{w:Nat}{a:H}(c:iS 0 a)(i:w<a.size)(b:jI):Step w a (a.cons b):=by
 have f:(a.cons b).get w=a.get w:=by rw[fg,aw G]
 exact⟨⟨(c.cons b).hp,(c.cons b).low,V⟩,λd h _=>by rw[fg,aw G],λd g=>by rw[jN f]at g;grind⟩
def Lb.new{a:Nat}{h:H}(j:a<h.size)(g:∀b,Fp h a b->b<h.size)(c:jI):Lb a (h.cons c) h.size c:=by
 have i:(h.cons c).get a=h.get a:=by rw[fg,aw G]
 exact⟨V,λd=>by rw[jN i]at d;have:=g _ d;omega⟩
def Step.rx{c:Nat}{b:H}(k:iS 0 b){a:Nat}{o:jI}(h:Lb c b a o)(d:jI)(g:H)(i:Step c g b)(p:g.size<=a):Step c g (fF b a d):=by
 have m:(fF b a d).get c=b.get c:=by rw[ez h.get,aw (bE h.ne)]
 refine⟨⟨(k.put a d).hp,(k.put a d).low,by rw[iB];exact i.ok.sz⟩,λf l n=>?_,λf j=>?_⟩;rw[ez h.get,aw G];exact i.get f l n;rw[jN m]at j;exact i.fp f j
theorem Step.put{b:Nat}{a:H}(i:iS 0 a){x:jI}(h:a.get b=D x)(d:jI)(q:∀j∈ir d.gU,∀f,fa j=D f->Fp a b f\/a.size<=f):Step b a (fF a b d):=by
 refine⟨⟨(i.put b d).hp,(i.put b d).low,by rw[iB];omega⟩,λc o k=>?_,λc g=>?_⟩;rw[ez h,aw (λg=>k (.inl g))];rcases g with rfl|⟨r,l,j,p,m⟩;exact .inl (.inl rfl);rw[ez h,ax rfl]at l
 grind
def Step.afI{c:Nat}{b:H}(h:iS 0 b){a:Nat}{m:jI}(f:b.get a=D m)(j:Fp b c a)(l:a≠c)(d:jI):Step c b (fF b a d):=by
 have o:(fF b a d).get c=b.get c:=by rw[ez f,aw (bE l)]
 refine⟨⟨(h.put a d).hp,(h.put a d).low,by rw[iB];omega⟩,λi n k=>?_,λi g=>?_⟩;rw[ez f,aw (λg=>k (by rw[g];exact j))]
 grind [jN]
def Step.PU{f:Nat}{g c:H}(d:Step f g c){b:H}(h:∀a,b.get a=c.get a)(m:b.size=c.size)(j:iS 0 b):Step f g b:=
 ⟨⟨j.hp,j.low,by rw[m];exact d.ok.sz⟩,λa k l=>by rw[h];exact d.get a k l,λa i=>by rw[jN (h f)]at i;exact d.fp a i⟩
def aa5(b:H)(c a:Nat):Fp (hr b) c a=Fp b c a:=jN (iI b c) a
def Step.hr{f:Nat}{c d:H}(a:Step f (hr c) d):Step f c d:=
 ⟨⟨a.ok.hp,a.ok.low,a.ok.sz⟩,λb g h=>by rw[a.get b g (by rw[aa5];exact h),iI],λb i=>by have:=a.fp b i;rw[aa5]at this;exact this⟩
def iS.hr{b:Nat}{a:H}(c:iS b a):iS b (hr a):=⟨by rw[agU];exact c.hp,az _,c.sz⟩
def Gr(h:H)(d:T)(i:Nat)(a:List T):Prop:=
 (d= .em [] false/\a=[])\/∃b c j g f,d= .arr b c 0 a.length false/\h.get b=D ⟨i,c,j,g,false,f⟩/\f.take a.length=a
theorem Gr.nil(a:H)(b:Nat):Gr a (.em [] false) b []:= .inl ⟨rfl,rfl⟩
theorem Gr.iW{d:H}{a:T}{f:Nat}{b:List T}(c:Gr d a f b):a.iW=true:=by rcases c with⟨rfl,_⟩|⟨g,h,j,i,k,rfl,_⟩<;>rfl
theorem Gr.cells{d:H}{a:T}{f:Nat}{b:List T}(c:Gr d a f b):a.cells=[a]:=by rcases c with⟨rfl,_⟩|⟨g,h,j,i,k,rfl,_⟩<;>rfl
def Gr.mono{d h':H}{b:T}{f:Nat}{c:List T}(i:Gr d b f c)(l:∀a,fa b=D a->h'.get a=d.get a):Gr h' b f c:=by rcases i with⟨rfl,rfl⟩|⟨a,g,m,h,n,rfl,j,k⟩;exact .inl ⟨rfl,rfl⟩;exact .inr ⟨a,g,m,h,n,rfl,l a rfl▸j,k⟩
def Gr.box{g:H}{c:T}{h:Nat}{d:List T}(k:Gr g c h d){b:Nat}(l:fa c=D b):∃a i f j,g.get b=D ⟨h,a,i,f,false,j⟩/\c= .arr b a 0 d.length false:=by rcases k with⟨rfl,_⟩|⟨m,a,i,f,j,rfl,n,o⟩;simp at l;simp_all
def Gr.ne{a:H}{f g:T}{c d:Nat}{h AM:List T}(i:Gr a f c h)(j:Gr a g d AM)(o:c≠d):∀b,fa f=D b->fa g≠some b:=λb k l=>by
 have⟨_,_,_,_,m,_⟩:=i.box k;have⟨_,_,_,_,n,_⟩:=j.box l;rw[m]at n;grind
def Gr.jQ{b:H}{c:T}{h:Nat}{a:List T}(d:Gr b c h a):b.jQ c=D a:=by
 rcases d with⟨rfl,rfl⟩|⟨j,k,m,l,i,rfl,f,g⟩;rfl;have hl:a.length<=i.length:=by have:=cd List.length g;rw[List.length_take]at this;omega
 rw[iU,f];simp_all
def Gr.len{cx:Ctx}{g:H}{d:T}{h:Nat}{a:List T}(f:Gr g d h a)(b:H)(c:Ty)(i:ab)(o:c.u= .slice i):Io cx b c d=be (.int .i64 a.length) b:=by rcases f with⟨rfl,rfl⟩|⟨j,k,p,l,q,rfl,m,n⟩;simp_all;simp_all
def Gr.CI{c:H}{j:T}{h:Nat}{f:List T}(m:Gr c j h f){te:Ty}(p:te.size=h){i:Nat}(o:i<f.length):∃a b k g d,fa j=D a/\my c te j i=be (.eZ a b i 0) c/\c.get a=D ⟨h,b,k,g,false,d⟩/\d[i]? =D f[i]:=by
 rcases m with⟨rfl,rfl⟩|⟨a,b,k,g,d,rfl,l,n⟩
 grind
 refine⟨a,b,k,g,d,rfl,?_,l,?_⟩;rw[VO,l];simp_all
 grind
def Gr.qY{a:H}{d:T}{j:Nat}{h:Type}{f:h->T}{b:List h}(c:Gr a d j (b.map f))(p:∀g,AT a 11 (f g)=D (f g)):TI.qY a d=D (sl (b.map f)):=by
 have q:=c.jQ;rcases c with⟨rfl,i⟩|⟨k,l,r,m,s,rfl,n,o⟩
 rw[i];rfl;simp_all
def Gr.cut{cx:Ctx}{b:H}{i:T}{h:Nat}{a:List T}(m:Gr b i h a){ty te:Ty}{f:ab}(p:ty.u= .slice f)(ht:cx.ty f=D te)(t:te.size=h){n:Nat}(c:n<=a.length)(s:0<a.length):
 ∃j,H8 cx b ty i none (some n) none=be j b/\Gr b j h (a.take n)/\fa j=fa i:=by
 rcases m with⟨rfl,rfl⟩|⟨d,g,q,l,r,rfl,k,o⟩
 grind
 refine⟨.arr d g 0 n false,PQ ty te f d g 0 a.length n false _ p ht k c5 c,.inr ⟨d,g,q,l,r,by rw[List.length_take,cM c],k,?_⟩,rfl⟩;rw[List.length_take,cM c,<-o,List.take_take,cM c]
def Fh(c:H)(h:T)(j:Nat)(g:List T)(k:T)(d:H):Prop:=∃a f l i,k= .arr a f 0 g.length false/\d.get a=D ⟨j,f,l,i,false,g⟩/\
 (fa h=D a\/(fa h=none/\a=c.size))/\(∀b,b≠a->b<c.size->d.get b=c.get b)/\iS c.size d
def Fh.gr{j:H}{l:T}{c:Nat}{a:List T}{d:T}{b:H}(f:Fh j l c a d b):Gr b d c a:=by obtain⟨g,h,m,i,rfl,k,_⟩:=f;exact .inr ⟨g,h,m,i,a,rfl,k,aM⟩
def Fh.set{i:H}{m:T}{d b c h:Nat}{f:Bool}{a:List T}{g:H}(o:Fh i m d a (.arr b c 0 a.length false) g)(k:g.get b=D ⟨d,c,h,f,false,a⟩)(l:Nat)(n:T):
 Fh i m d (a.set l n) (.arr b c 0 a.length false) (fF g b ⟨d,c,h+1,f,false,a.set l n⟩):=by
 obtain⟨s,u,y,v,j,w,p,x,q⟩:=o;simp[T.arr.injEq,and_true]at j;obtain⟨rfl,rfl⟩:=j;exact⟨b,c,h+1,f,by rw[dq],by rw[ez k,ax rfl],p,λt r hl=>by rw[ez k,aw r];grind,q.put _ _⟩
def Gr.app{cx:Ctx}{a:H}{j:T}{f:Nat}{d:List T}(B:Gr a j f d)(k:iS 0 a){p q l:ab}{w y g:Ty}(C:cx.ty p=D w)(E:w.u= .slice l)(F:cx.ty l=D g)(I:cx.ty q=D y)(K:y.u= .slice l)(t:g.size=f)(M:1<=g.bytes)
 {x:T} {xs:List T} (N:a.jQ x=D xs) (v:∀e∈xs,e.cells.length=f) (U:xs≠ []) (S:(d.length+xs.length)*g.bytes<=70368744177664):
 ∃z s,ju cx a p q j x=be z s/\Fh a j f (d++xs) z s:=by
 have L:ju cx a p q j x=km (a.append g.size g.bytes j xs):=by
  unfold ju rM oz;rw[C,fj,I,fj];simp[E,F,K,N,fj];rw[t,mB v,iO]
 rw[L,t];obtain⟨b,c,rfl⟩:∃b c,xs=b::c:=by cases xs with|nil=>grind|cons b c=>simp
 rcases B with⟨rfl,rfl⟩|⟨h,i,r,R,Q,rfl,o,O⟩;refine⟨_,a.cons ⟨f,0,0,false,false,b::c⟩,?_,a.size,0,0,false,rfl,V,.inr ⟨rfl,rfl⟩,λA m _=>by rw[fg,aw m],(k.cons _).hp,(k.cons _).low,V⟩;show km (a.jK f g.bytes [] (b::c))=_;rw[rR v M c5];rfl;refine⟨.arr h (i+1) 0 (d++b::c).length false,fF a h ⟨f,i+1,r+1,false,false,d++b::c⟩,?_,h,i+1,r+1,false,rfl,by rw[ez o,ax rfl],.inl rfl,λA m _=>by rw[ez o,aw m],(k.put _ _).hp,(k.put _ _).low,by rw[iB];omega⟩;show km (a.oL f g.bytes h i d.length (b::c))=_;have hl:d.length<=Q.length:=by have:=cd List.length O;rw[List.length_take]at this;omega
 have:a.oL f g.bytes h i d.length (b::c)=D (.arr h (i+1) 0 (d++b::c).length false,fF a h ⟨f,i+1,r+1,false,false,d++b::c⟩):=by
  unfold H.oL;rw[o];simp_all[zx,mB,jv,kG,qt,qh,fj,aY]
 rw[this];rfl
def Xt(b:H)(d:T)(h:Nat)(g:List T)(f:T)(c:H):Prop:=Gr c f h g/\(∀a,a<b.size->fa d≠some a->c.get a=b.get a)/\(∀a,fa f=D a->fa d=D a\/b.size<=a)/\iS b.size c
def Fh.xt{c:H}{g:T}{f:Nat}{b:List T}{h:T}{d:H}(a:Fh c g f b h d):Xt c g f b h d:=by
 have j:=a.gr;obtain⟨m,n,s,e,rfl,o,p,q,k⟩:=a;refine⟨j,λi l r=>?_,λi l=>?_,k⟩
 grind
 grind [id,ay,En]
def Xt.refl{a:H}{b:T}{f:Nat}{c:List T}(g:Gr a b f c)(d:iS 0 a):Xt a b f c b a:=⟨g,λ_ _ _=>rfl,λ_ h=> .inl h,d.hp,d.low,az _⟩
def Xt.trans{d f g:H}{j k l:T}{c:Nat}{q AM:List T}(m:Xt d j c q k f)(n:Xt f k c AM l g):Xt d j c AM l g:=by
 obtain⟨_,a2,a3,a4⟩:=m;obtain⟨o,p,s,b⟩:=n;have:=a4.sz;refine⟨o,λa h i=>?_,λa h=>?_,b.hp,b.low,aU a4.sz b.sz⟩;rw[p a G (λr=>(a3 a r).elim i (λt=>by omega)),a2 a h i]
 grind
theorem Xt.cons{c d:H}{g h:T}{f:Nat}{b:List T}(i:Xt c g f b h d)(a:jI):Xt c g f b h (d.cons a):=by obtain⟨a1,a2,a3,a4⟩:=i;have:=a4.sz;refine⟨a1.mono λl j=>?_,λm n o=>?_,a3,(a4.cons a).hp,(a4.cons a).low,(a4.cons a).sz⟩;have⟨_,_,_,_,k,_⟩:=a1.box j;have:=H.fN k;rw[fg,aw G];rw[fg,aw G];grind
def AD{b:Nat}{c f:H}{k o:T}{x t E i:Nat}{A:Bool}{F:List T}{l:List T}(bu:iS 0 c)(R:∀a,Fp c b a->a<c.size)(n:c.get b=D ⟨t,0,E,A,false,[.eQ l]⟩)(al:l[i]? =D k)(a8:x≠t)
 {Q:List T} (Y:Gr c k x Q) (U:Xt c k x F o f):f.get b=c.get b/\∀g,g=(⟨t,0,E+1,A,false,[.eQ (l.set i o)]⟩:jI)->
  Step b c (fF f b g)/\(∀a,Fp (fF f b g) b a->a<(fF f b g).size)/\Gr (fF f b g) o x F/\
   ∀r y AM,r∈l->Gr c r y AM->(∀a,fa k=D a->fa r≠some a)->y≠t->Gr (fF f b g) r y AM/\∀a,fa o=D a->fa r≠some a:=by
 have an:=H.fN n;have bn:k∈l:=aD al;obtain⟨K,C,ap,S⟩:=U;have Z:∀a,fa k=D a->a≠b:=λa d q=>by
  subst q;have⟨_,_,_,_,j,_⟩:=Y.box d;rw[n]at j;grind
 have aA:Step b c f/\f.get b=c.get b/\(∀a,fa o=D a->a≠b/\(fa k=D a\/c.size<=a))/\(∀a,a≠b->fa k≠some a->a<c.size->f.get a=c.get a):=by
  have M:f.get b=c.get b:=C b an λj=>Z b j rfl;refine⟨⟨S,λp m B=>C p m λj=>B (.inr ⟨_,n,k,by grind [T.cells,ir],j⟩),λp m=>by rw[jN M]at m;grind⟩,M,λp m=>⟨?_,ap p m⟩,λp _ m hl=>C p hl m⟩
  grind
 obtain⟨w,I,O,bs⟩:=aA;refine⟨I,λg bp=>?_⟩;have s:f.get b=D ⟨t,0,E,A,false,[.eQ l]⟩:=I.trans n;have ae:(fF f b g).get b=D g:=by rw[ez s,ax rfl]
 have X:∀h∈ir g.gU,h∈l\/h=o:=by
  grind [T.cells,ir,cw]
 have aX:∀h∈l,∀a,fa h=D a->Fp c b a:=λh u a d=> .inr ⟨_,n,h,by grind [T.cells,ir],d⟩;have av:Step b c (fF f b g):=by
  have N:iS 0 f:=⟨w.ok.hp,w.ok.low,aB _⟩;refine⟨⟨(N.put b g).hp,(N.put b g).low,by rw[iB];exact w.ok.sz⟩,λa d B=>?_,λa d=>?_⟩;rw[ez s,aw (λq=>B (.inl q))];grind;rcases d with rfl|⟨z,v,h,u,d⟩;exact .inl (.inl rfl)
  grind
 have bi:∀a,fa o=D a->a<f.size:=λa d=>by have⟨_,_,_,_,j,_⟩:=K.box d;exact H.fN j
 refine⟨av,λa d=>?_,?_,λr y AM aE L aN a7=>⟨?_,λa d q=>?_⟩⟩;rw[iB];rcases d with rfl|⟨z,v,h,u,d⟩
 exact H.fN s;rw[ae]at v;cases v;rcases X h u with u|rfl
 have:=R a (.inr ⟨_,n,h,by grind [T.cells,ir],d⟩);have:c.size<=f.size:=w.ok.sz;omega
 grind
 exact K.mono λa d=>by rw[ez s,aw (O a d).1]
 refine L.mono λa d=>?_;have⟨_,_,_,_,j,_⟩:=L.box d;have W:a≠b:=λq=>by subst q;rw[n]at j;grind
 rw[ez s,aw W]
 grind
 grind
section
variable {P:ai}{cx:Ctx}{tb:ik}{M:Nat}
def ahB{c:aj}{a:mU}{b:List T}{d:H}{l:af Oper}{j:aa Tmp}{k:List Oper}{n m:iP}{i:jD}(o:a.Ok P cx c)(ht:tb.h c=D a)(p:a.pre b d)
 (r:∀g f,a.post b d g f->XK (some (g,f)) cx (rY P cx tb) M l j k n m i):XK (hl P cx tb c b d) cx (rY P cx tb) M l j k n m i:=by
 have⟨g,f,e,q⟩:=Ja ht o p;rw[e];grind
def adG{d:aj}{b:mU}{c:List T}{a:H}{q:af Oper}{j:List (Nat×Nat)}{k:aa Tmp}{p:Op}{n:List Oper}{m:Nat}{o:List (Nat×Nat)}{l:List (Nat×H×H)}{s r:iP}{i:jD}(t:b.Ok P cx d)(ht:tb.h d=D b)(u:b.pre c a)
 (w:∀g f,b.post c a g f->Xn (some (g,f)) cx (rY P cx tb) M q j k p n m o l s r a i):Xn (hl P cx tb d c a) cx (rY P cx tb) M q j k p n m o l s r a i:=by
 have⟨g,f,e,v⟩:=Ja ht t u;rw[e];grind
def hlB{c:aj}{d:mU}(m:d.Ok P cx c)(n:∀b a g f,d.post b a g f->f=a/\E8 g):∃k:List T->H->Bool,∀{tb:ik},tb.h c=D d->∀b a,d.pre b a->hl P cx tb c b a=D (.ej (k b a),a):=by
 let i:ik:=⟨λ_=>none,λ_=>some d⟩
 refine⟨λb a=>match hl P cx i c b a with|some (.ej j,_)=>j|_=>false,λ{tb} ht b a o=>?_⟩;have l:hl P cx tb c b a=hl P cx i c b a:=by unfold hl;rw[ht]
 have⟨g,f,e,p⟩:=Ja (tb:=i) rfl m o;obtain⟨rfl,j,rfl⟩:=n _ _ _ _ p;rw[l]
 grind
def hlI{c:aj}{d:mU}(m:d.Ok P cx c)(n:∀b a g f,d.post b a g f->f=a/\Ia g):∃k:List T->H->Int,∀{tb:ik},tb.h c=D d->∀b a,d.pre b a->hl P cx tb c b a=D (.int .i64 (k b a),a):=by
 let i:ik:=⟨λ_=>none,λ_=>some d⟩
 refine⟨λb a=>match hl P cx i c b a with|some (.int _ j,_)=>j|_=>0,λ{tb} ht b a o=>?_⟩;have l:hl P cx tb c b a=hl P cx i c b a:=by unfold hl;rw[ht]
 have⟨g,f,e,p⟩:=Ja (tb:=i) rfl m o;obtain⟨rfl,j,rfl⟩:=n _ _ _ _ p;rw[l]
 grind
end
def mF(b a:H):H:=⟨a.size,if a.low<b.low then a.low else b.low,a.iv⟩
def iA(c b:H)(a:Nat):(mF c b).get a=b.get a:=H.uT b _ a
@[simp]def xn (b a:H):(mF b a).size=a.size:=a9
def iS.out{c:Nat}{b:H}(a:iS c b)(h:H):iS c (mF h b):=⟨a.hp,by have:=a.low;unfold mF;simp only;split<;>omega,a.sz⟩
def Step.out{c:Nat}{h a:H}(b:Step c (TI.hr h) a):Step c h (mF h a):=b.hr.PU (iA h a) rfl ⟨(b.ok.out h).hp,(b.ok.out h).low,aB _⟩
def Gr.out{a:H}{d:T}{c:Nat}{b:List T}(g:Gr a d c b)(h:H):Gr (mF h a) d c b:=g.mono λf _=>iA h a f
def jS(ι:Type)(pre:ι->List T->H->Prop)(post:ι->List T->H->T->H->Prop):mU:=⟨λa b=>∃c,pre c a b,λa b f d=>∀c,pre c a b->post c a b f d⟩
section
variable {P:ai}{cx:Ctx}{M:Nat}{ι:Type}{pre:ι->List T->H->Prop}{post:ι->List T->H->T->H->Prop}
def jz{tb:ik}(Q:P.follows .mixedOrders)(j9:jP P cx){t:aj}{d:Func}{r:DL}(k:H6 P cx t d M r)(l:List T->H->Nat)(R:∀c p a,pre c p a->p.length<=d.ntmps)
 (Z:∀c b a,pre c b a->∀B,oZ B 0 b->W (kw cx (rY P cx tb) (l b a) M r (d.body.getD .skip) ⟨B,.nil⟩ (hr a)) (CJ cx M d.results.toList λn K=>post c b a (kJ n) (mF a K))):(jS ι pre post).Ok P cx t:=by
 intro b a ⟨al,S⟩;have z:∀c,pre c b a->∃i h,wD cx (rY P cx tb) (l b a) d M true b a=D (i,h)/\post c b a i h:=by
  intro c j;have⟨A,Y,_,N⟩:=oM M d.ntmps 0 b (R c b a j);have⟨x,e,u,g,ae,n,U,m⟩:=HX (Z c b a j A N);have g:=tV _ k.dr _ _ _ g;have⟨E,f⟩:=C6 k.ok;rw[f]at g;refine⟨_,_,?_,m⟩;unfold wD;rw[f];obtain⟨o,y,q⟩:=a;simp only;rw[Y,fj];have g:ll cx (rY P cx tb) (l b ⟨o,y,q⟩) M E ⟨A,.nil⟩ ⟨o,o,q⟩=D (x,e,u):=g;rw[g,fj,nK];have X:=rh U;have O:=zU y (kJ n) u;rcases ae with rfl|rfl<;>(simp only;rw[X,fj];exact O)
 have⟨i,h,v,_⟩:=z al S;refine⟨i,h,λc j=>?_,λC w an I s L=>sr (F:=⟨d,M,true,none⟩) Q j9 k.at_ k.ok _ (HJ P cx tb) (l b a) b a i h v C w an I s L⟩;have⟨av,ap,f,m⟩:=z c j;rw[v]at f;simp[ay,aI]at f;rw[f.1,f.2];exact m
def jl{tb:ik}{f:aj}{d:List T}{g:H}{m:af Oper}{j:aa Tmp}{l:List Oper}{o n:iP}{i:jD}(p:(jS ι pre post).Ok P cx f)(ht:tb.h f=D (jS ι pre post))(b:ι)(k:pre b d g)
 (r:∀c a,post b d g c a->XK (some (c,a)) cx (rY P cx tb) M m j l o n i):XK (hl P cx tb f d g) cx (rY P cx tb) M m j l o n i:=
 ahB p ht ⟨b,k⟩ λc a q=>r c a (q b k)
def ma{tb:ik}{g:aj}{f:List T}{a:H}{r:af Oper}{j:List (Nat×Nat)}{k:aa Tmp}{q:Op}{o:List Oper}{n:Nat}{p:List (Nat×Nat)}{l:List (Nat×H×H)}{t s:iP}{i:jD}(u:(jS ι pre post).Ok P cx g)(ht:tb.h g=D (jS ι pre post))(c:ι)(m:pre c f a)
 (w:∀d b,post c f a d b->Xn (some (d,b)) cx (rY P cx tb) M r j k q o n p l t s a i):Xn (hl P cx tb g f a) cx (rY P cx tb) M r j k q o n p l t s a i:=
 adG u ht ⟨c,m⟩ λd b v=>w d b (v c m)
def yE(g:ι->Nat){f:aj}(step:∀c,(jS ι (λa d b=>pre a d b/\g a<c) post).Ok P cx f->(jS ι (λa d b=>pre a d b/\g a<c+1) post).Ok P cx f)(c:Nat):(jS ι (λa d b=>pre a d b/\g a<c) post).Ok P cx f:=by
 induction c with
 |zero=>intro h b ⟨a,_,i⟩;omega
 |succ c j=>simp_all
end
def Fq{d j q:Nat}{n:Bool}{c:H}{l cells':List T}(w:iS 0 c)(y:∀b,Fp c d b->b<c.size)(g:c.get d=D ⟨j,0,q,n,false,[.eQ l]⟩)(t:∀a∈cells',a∈l\/fa a=none\/∃p∈l,fa a=fa p):
 ∀h,h=(⟨j,0,q+1,n,false,[.eQ cells']⟩:jI)->Step d c (fF c d h)/\(∀b,Fp (fF c d h) d b->b<(fF c d h).size)/\(fF c d h).get d=D h/\∀a i m,Gr c a i m->i≠j->Gr (fF c d h) a i m:=by
 rintro h rfl;have u:∀a∈cells',∀b,fa a=D b->Fp c d b:=λa o b f=>by
  rcases t a o with k|k|⟨p,A,k⟩;exact .inr ⟨_,g,a,by grind [T.cells,ir],f⟩;rw[k]at f;grind;exact .inr ⟨_,g,p,by grind [T.cells,ir],k▸f⟩
 have x:=Step.put w g ⟨j,0,q+1,n,false,[.eQ cells']⟩ (λa o b f=> .inl (u a (by grind [T.cells,ir]) b f));refine⟨x,λb f=>?_,by rw[ez g,ax rfl],λa i m r z=>r.mono λb s=>?_⟩;rw[iB];rcases f with rfl|⟨B,v,a,o,f⟩
 exact H.fN g;rw[ez g,ax rfl]at v
 grind [ay,T.cells,ir]
 have⟨_,_,_,_,f,_⟩:=r.box s;rw[ez g,aw (λk=>by subst k;rw[g]at f;grind)]
def Fld(c:H)(d:Nat)(a:T×aa (Nat×List T)):Prop:=match a.2 with
 |none=>fa a.1=none
 |some b=>Gr c a.1 b.1 b.2/\b.1≠d
structure oQ(h:H)(w szw ver:Nat)(F:List (T×aa (Nat×List T))):Prop where
 ok:iS 0 h
 get:h.get w=D ⟨szw,0,ver,true,false,[.eQ (F.map (·.1))]⟩
 YS:∀f∈F,Fld h szw f
 dis:∀(j k:Nat),j≠k->∀a b,F[j]? =D a->F[k]? =D b->∀c,fa a.1=D c->fa b.1≠some c
def oQ.lt{a:H}{b f g:Nat}{c:List (T×aa (Nat×List T))}(d:oQ a b f g c):b<a.size:=H.fN d.get
def oQ.fp{b:H}{h m n:Nat}{i:List (T×aa (Nat×List T))}(d:oQ b h m n i):∀a,Fp b h a->a<b.size:=by rintro a (rfl|⟨p,c,o,g,f⟩);exact d.lt;rw[d.get]at c;cases c;simp only[ir,aV,cB,bJ,T.cells]at g;obtain⟨j,k,rfl⟩:=List.mem_map.1 g;have:=d.YS j k;unfold Fld at this;split at this;rw[this]at f;grind;have⟨_,_,_,_,l,_⟩:=this.1.box f;exact H.fN l
def oQ.gr{c:H}{l j k:Nat}{a:List (T×aa (Nat×List T))}(i:oQ c l j k a){f:T}{d:Nat}{b:List T}(h:Nat)(g:a[h]? =D (f,some (d,b))):Gr c f d b:=(i.YS _ (aD g)).1
def oQ.FA{c:H}{d i j:Nat}{a:List (T×aa (Nat×List T))}(h:oQ c d i j a){f:T×aa (Nat×List T)}(k:f∈a){b:Nat}(g:fa f.1=D b):Fp c d b:= .inr ⟨_,h.get,f.1,by simp[ir,aV,cB,bJ,T.cells];grind,g⟩
def oQ.step{d f:H}{c j k:Nat}{g:List (T×aa (Nat×List T))}(b:oQ d c j k g)(n:iS 0 f)(i:∀a,Fp d c a->f.get a=d.get a):oQ f c j k g:=by refine⟨n,i c (.inl rfl)▸b.get,λl h=>?_,b.dis⟩;have:=b.YS l h;unfold Fld at this|-;split at this;omega;exact⟨this.1.mono λa m=>i a (b.FA h m),this.2⟩
theorem oQ.cons{c:H}{w d f:Nat}{b:List (T×aa (Nat×List T))}(a:oQ c w d f b)(g:jI):oQ (c.cons g) w d f b:=a.step (a.ok.cons g) λh i=>by rw[fg,aw (iH (a.fp h i))]
def oQ.rx{b:H}{c h i:Nat}{d:List (T×aa (Nat×List T))}(f:oQ b c h i d){a:Nat}{m:jI}(g:Lb c b a m)(j:jI):oQ (fF b a j) c h i d:=f.step (f.ok.put a j) λn k=>by rw[ez g.get,aw (λl=>g.nf (by rw[<-l];exact k))]
def oQ.afB{o b:H}{a d n m:Nat}{f:List (T×aa (Nat×List T))}(p:oQ o a d n f)(i:T×aa (Nat×List T)){j:jI}(x:j=⟨d,0,n+1,true,false,[.eQ ((f.set m i).map (·.1))]⟩)(t:b.get a=o.get a)(z:iS 0 b)
 (A:Fld (fF b a j) d i) (B:∀(c:Nat) h,c≠m->f[c]? =D h->Fld (fF b a j) d h/\(∀g,fa i.1=D g->fa h.1≠some g)):oQ (fF b a j) a d (n+1) (f.set m i):=by
 have w:=t.trans p.get;refine⟨z.put _ _,by rw[ez w,ax rfl,x],λh s=>?_,λc y v q r k l g=>?_⟩;have⟨c,u⟩:=cU s;rw[cG]at u
 grind
 rw[cG]at k l;split at k
 grind
 split at l
 grind
 exact p.dis c y v q r k l g
def oQ.app{j d:H}{c l m k:Nat}{b:List (T×aa (Nat×List T))}(a:oQ j c l m b){s t:T}{I o:List T}(g:Nat)(q:b[g]? =D (s,some (k,I)))(v:Xt j s k o t d):
 d.get c=D ⟨l,0,m,true,false,[.eQ (b.map (·.1))]⟩/\gJ j d c/\∀h,h=(⟨l,0,m+1,true,false,[.eQ ((b.set g (t,some (k,o))).map (·.1))]⟩:jI)->Step c j (fF d c h)/\oQ (fF d c h) c l (m+1) (b.set g (t,some (k,o))):=by
 have p:=a.YS _ (aD q);have N:(b.map (·.1))[g]? =D s:=by rw[br,q];rfl
 have⟨r,X⟩:=AD a.ok a.fp a.get N p.2 p.1 v;refine⟨r.trans a.get,il r,λh z=>?_⟩;have⟨Y,i,L,S⟩:=X h (by rw[z,bg]);have U:iS 0 d:=by obtain⟨_,_,_,A⟩:=v;exact⟨A.hp,A.low,aB _⟩
 refine⟨Y,a.afB _ z r U ⟨L,p.2⟩ λR i Q w=>?_⟩;have y:=aD w;have f:=a.YS i y;have O:i.1∈b.map (·.1):=List.mem_map_of_mem y;obtain⟨u,K⟩:=i;rcases K with _|B
 exact⟨f,λZ _ W=>by rw[show fa u=none from f]at W;grind⟩;have⟨E,F⟩:=S u B.1 B.2 O f.1 (λC M=>a.dis g R (bE Q) _ _ q w C M) f.2;exact⟨⟨E,f.2⟩,F⟩
def oQ.ajw{f:H}{c l m:Nat}{b:List (T×aa (Nat×List T))}(a:oQ f c l m b)(h:Nat){v':T}(j:fa v'=none)(x:∃p,b[h]? =D (p,none)):
 ∀d,d=(⟨l,0,m+1,true,false,[.eQ ((b.set h (v',none)).map (·.1))]⟩:jI)->Step c f (fF f c d)/\oQ (fF f c d) c l (m+1) (b.set h (v',none)):=by
 intro d o;obtain⟨u,i,w,t⟩:=Fq a.ok a.fp a.get (cells':=(b.set h (v',none)).map (·.1)) (λp n=>by
  grind) d o
 refine⟨u,a.afB _ o rfl a.ok j λz i y s=>?_⟩;have n:=aD s;have g:=a.YS i n;obtain⟨v,r⟩:=i;rcases r with _|A
 exact⟨g,λq k=>by rw[show fa v'=none from j]at k;grind⟩;exact⟨⟨t _ _ _ g.1 g.2,g.2⟩,λq k=>by rw[show fa v'=none from j]at k;grind⟩
def oQ.elem{l:H}{u M N c h j q:Nat}{k:Bool}{r:List T}{d:List (T×aa (Nat×List T))}(a:oQ l u M N d){o:T}{s:List T}(i:Nat)(B:d[i]? =D (o,some (c,s)))(m:fa o=D h)(b:l.get h=D ⟨c,j,q,k,false,r⟩)(g:Nat)(x:T):
 Step u l (fF l h ⟨c,j,q+1,k,false,r.set g x⟩)/\oQ (fF l h ⟨c,j,q+1,k,false,r.set g x⟩) u M N (d.set i (o,some (c,s.set g x))):=by
 have y:=a.YS _ (aD B);have I:h≠u:=λL=>by subst L;rw[a.get]at b;simp at b;exact y.2 b.1.symm
 have aE:=Step.afI a.ok b (a.FA (aD B) m) I ⟨c,j,q+1,k,false,r.set g x⟩;have av:(d.set i (o,some (c,s.set g x))).map (·.1)=d.map (·.1):=by
  rw[bg];simp only;apply dx;intro n;rw[cG]
  grind
 refine⟨aE,a.ok.put _ _,by rw[ez b,aw (bE I),av];exact a.get,λF ap=>?_,λn K aA O v Z z=>?_⟩;obtain⟨n,f⟩:=cU ap;rw[cG]at f;split at f;split at f;cases f;refine⟨?_,y.2⟩;rcases y.1 with⟨rfl,t⟩|⟨R,aN,a8,aX,bi,rfl,t,Y⟩
 simp at m;simp only[En,ay]at m;subst m;rw[b]at t;simp only[ay,jI.mk.injEq]at t;obtain⟨_,rfl,rfl,rfl,_,rfl⟩:=t;exact .inr ⟨R,j,q+1,k,r.set g x,by rw[dq],by rw[ez b,ax rfl],by rw[dq,List.take_set,Y]⟩
 grind
 rename_i L;have A:=a.YS F (aD f);obtain⟨a7,X⟩:=F;rcases X with _|p
 exact A;exact⟨A.1.mono λv z=>by rw[ez b,aw (λe=>by subst e;exact a.dis i n G _ _ B f v m z)],A.2⟩;have:∀(C:Nat) (w:T×aa (Nat×List T)),(d.set i (o,some (c,s.set g x)))[C]? =D w->∃E,d[C]? =D E/\E.1=w.1:=by
  intro C w an;rw[cG]at an
  grind
 obtain⟨Q,ae,U⟩:=this n O Z;obtain⟨S,al,W⟩:=this K v z;rw[<-U,<-W];exact a.dis n K aA Q S ae al
def Gr.fz{b:H}{f:T}{k:Nat}{h:Type}{a:h->T}{c:List h}(d:Gr b f k (c.map a))(j:∀g,AT b 11 (a g)=D (a g)):TI.fz b f=D (sl (c.map a)):=by
 have:=d.qY j;rcases d with⟨rfl,i⟩|⟨l,m,q,n,r,rfl,o,p⟩
 rw[i];rfl;simp_all
def Xt.out{h b:H}{d f:T}{c:Nat}{a:List T}(g:Xt (TI.hr h) d c a f b):Xt h d c a f (mF h b):=by obtain⟨a1,a2,a3,a4⟩:=g;exact⟨a1.out h,λi j k=>by rw[iA,a2 i j k,iI],a3,(a4.out h).hp,(a4.out h).low,a4.sz⟩
def Gr.mR{cx:Ctx}{b:H}{j:T}{a:Nat}{k:Type}{f:k->T}{h:List k}(s:Gr b j a (h.map f))(o:iS 0 b){i l:ab}{p d:Ty}(m:cx.ty i=D p)(n:p.u= .slice l)(t:cx.ty l=D d)(y:d.size=a)(v:1<=d.bytes)(w:∀x,Pc (f x)=a)(x:k)(z:(h.length+1)*d.bytes<=70368744177664):
 ∃g c,ju cx (b.cons ⟨a,0,0,true,false,[f x]⟩) i i j (.arr b.size 0 0 1 false)=be g c/\Xt b j a ((h++[x]).map f) g c:=by
 have q:=(Xt.refl s o).cons ⟨a,0,0,true,false,[f x]⟩;have⟨g,c,e,r⟩:=Gr.app (cx:=cx) q.1 (o.cons _) (x:= .arr b.size 0 0 1 false) (xs:=[f x]) m n t m n y v d4 (iD (show(f x).cells.length=a from w x)) V c5;exact⟨g,c,e,List.map_append▸q.trans r.xt⟩
end
def oQ.start{h:H}{w szw ver:Nat}{F:List (T×aa (Nat×List T))}(o:iS 0 h)(g:h.get w=D ⟨szw,0,ver,true,false,[.eQ (F.map (·.1))]⟩)
 (f:∀a∈F,(a.2=none/\fa a.1=none)\/(a.1= .em [] false/\∃e,a.2=D (e,[])/\e≠szw)):oQ h w szw ver F/\∀c,Fp h w c->c=w:=by
 have i:∀a∈F,fa a.1=none:=λa h=>by
  rcases f a h with k|k;exact k.2;rw[k.1];rfl
 refine⟨⟨o,g,λa h=>?_,λs k _ l c m r q b=>by rw[i l (aD m)]at b;simp at b⟩,λc b=>?_⟩;obtain⟨p,t⟩:=a;rcases f _ h with⟨rfl,k⟩|⟨rfl,e,rfl,k⟩;exact k;exact⟨Gr.nil _ _,k⟩;rcases b with rfl|⟨u,d,p,j,b⟩;rfl;rw[g]at d;cases d;simp only[ir,aV,cB,bJ,T.cells]at j;obtain⟨a,n,rfl⟩:=List.mem_map.1 j;rw[i a n]at b;simp at b
def oQ.other{b e:H}{d l m g:Nat}{i:List (T×aa (Nat×List T))}(h:oQ b d l m i)(j:∀a,Fp b d a->¬Fp b g a)(f:Step g b e):oQ e d l m i/\∀a,Fp e d a->¬Fp e g a:=by
 have k:∀a,Fp b d a->e.get a=b.get a:=λa c=>f.get a (h.fp a c) (j a c);refine⟨h.step ⟨f.ok.hp,f.ok.low,aB _⟩ k,λa c n=>?_⟩;rw[jN (k d (.inl rfl))]at c;rcases f.fp a n with q|q
 exact j a c q;have:=h.fp a c;omega
structure Sm(b:Nat)(h h':H):Prop where
 ok:iS 0 h'
 size:h'.size=h.size
 get:∀c,c≠b->h'.get c=h.get c
def Sm.refl{b:Nat}{a:H}(c:iS 0 a):Sm b a a:=⟨c,rfl,λ_ _=>rfl⟩
theorem Sm.put{a:Nat}{e b:H}(d:Sm a e b){x:jI}(h:b.get a=D x)(g:jI):Sm a e (fF b a g):=⟨d.ok.put a g,by rw[iB];exact d.size,λc f=>by rw[ez h,aw f];exact d.get c f⟩
def Sm.iY{d:Nat}{h e:H}{a g ver:Nat}{b:List (T×aa (Nat×List T))}(f:Sm d h e)(k:oQ h a g ver b)(i:¬Fp h a d):oQ e a g ver b:=k.step f.ok λc j=>f.get c λl=>i (l▸j)
def jr.ft{b c:H}{Vq V':Nat->Prop}{d:Nat}{e f:List T}(g:jr (FT b Vq d) e f)(h:∀a,Vq a->V' a/\c.get a=b.get a):jr (FT c V' d) e f:=g.imp λ_ _ i=>i.mono h
def Gr.MD{a:H}{Vq:Nat->Prop}{g:T}{l d:Nat}{b c:List T}(f:Gr a g l b)(h:d<=11)(e:jr (FT a Vq d) b c):TI.fz a g=D (sl c):=by
 have j:iK (AT a 11) b=D c:=tQ (e.imp λ_ _ k=>(k.deep h).AT);have i:=f.jQ;rcases f with⟨rfl,rfl⟩|⟨m,n,r,o,s,rfl,p,q⟩
 cases e;rfl;rw[yk,i,fj,j];rfl
section
def jr.left{a f:Type}{b:a->f->Prop}{d:List a}{j:List f}(h:jr b d j){e:a}(c:e∈d):∃k,b e k:=by
 induction h with
 |nil=>simp at c
 |cons g _ i=>
  rcases List.mem_cons.1 c with rfl|q;exact⟨_,g⟩;exact i q
def FT.fzN{a:H}{z:Nat->Prop}{h:Nat}(F:∀c,z c->h<=c):∀{b:Nat} {j y:T},FT a z b j y->freeze a h b j=freeze a 0 b j:=by
 intro b;induction b with
 |zero=>intro j y v;exact v.elim
 |succ b C=>
  intro j y v;rcases v with⟨A,B,rfl⟩|⟨c,l,i,g,s,n,r,rfl,I,f,t,rfl⟩|⟨p,O,rfl,t,rfl⟩
  rw[wC a h b j A B,wC a 0 b j A B];have u:iK (freeze a h b) n=iK (freeze a 0 b) n:=pN λk w=>by
   have⟨N,x⟩:=t.left w;exact C x
  have E:∀q,freeze a q (b+1) (.arr c l i g s)=iT (ar q c) (Z (a.get c) λk=>jI.casesOn k λ_ m _ exact o e=>
   iT (aq m l) (Bool.casesOn o (Z (Z (kZ i e) λd=>takeN g d) λn=>Z (iK (freeze a q b) n) λr=>
    List.casesOn r (List.casesOn e (Bool.casesOn exact (some .jb) (some (.em [] false))) λ_ _=>some .jb) λ_ _=>some (.em r s)) none)):=λq=>rfl
  rw[E,E];have L:a.jQ (.arr c l i g s)=Z (a.get c) λk=>jI.casesOn k λ_ m _ _ o e=>iT (aq m l) (Bool.casesOn o (Z (kZ i e) λd=>takeN g d) none):=rfl;rw[L]at f;rw[show ar h c=true from cE (F c I),show ar 0 c=true from cE (aB c)];show(Z (a.get c) _)=(Z (a.get c) _);rcases K:a.get c with _|k
  rfl;rw[K]at f;obtain⟨R,m,S,Q,o,e⟩:=k;simp only[fj]at f|-;cases M:aq m l;rfl;rw[M]at f;cases o;have f:(Z (kZ i e) λd=>takeN g d)=D n:=f;show(Z (Z (kZ i e) λd=>takeN g d) _)=(Z (Z (kZ i e) λd=>takeN g d) _);rw[f,fj,fj,u];rfl;have u:iK (freeze a h b) p=iK (freeze a 0 b) p:=pN λk w=>by
   have⟨N,x⟩:=t.left w;exact C x
  show(Z (iK (freeze a h b) p) _)=(Z (iK (freeze a 0 b) p) _);rw[u]
def FT.top{b:H}{Vq:Nat->Prop}{h d:Nat}(I:d<=11)(q:∀a,Vq a->h<=a){c f:List T}(r:jr (FT b Vq d) c f):∃i,j4 b h (.eQ c)=D i/\cn i= .eQ f:=by
 have u:iK (jA b h) c=iK (jA b 0) c:=pN λA x=>by
  have⟨K,s⟩:=r.left x;have l:=(s.deep (show d<=12 by omega)).fzN q;rcases(s.deep (show d<=12 by omega))with⟨m,n,rfl⟩|⟨a,j,p,o,k,C,E,rfl,w,F,v,rfl⟩|⟨c,f,rfl,v,rfl⟩;cases A<;>first|exact l|(simp[kT]at m)
  have t:∀e,jA b e (.arr a j p o k)=(Bool.casesOn (ar e a) (some (.arr a j p o k)) (freeze b e 12 (.arr a j p o k)):aa T):=λe=>rfl;rw[t,t,show ar h a=true from cE (q a w),show ar 0 a=true from cE (aB a),l];exact l
 have g:qY b (.eQ c)=D (.eQ f):=by
  rw[Qu,tQ (r.imp λB a e=>(e.deep (show d<=12 by omega)).fz)];rfl
 have g:(Z (Z (iK (jA b 0) c) λy=>some (T.eQ y)) λz=>some (cn z))=D (.eQ f):=g;rw[<-u]at g;have⟨i,m,n⟩:=ed.1 g;simp[ay]at n;exact⟨i,m,n⟩
def Lb.mp{b:Nat}{c d:H}{a:Nat}{f:jI}(e:Lb b c a f)(h:d.get b=c.get b)(g:d.get a=c.get a):Lb b d a f:=⟨by rw[g];exact e.get,by rw[jN h];exact e.nf⟩
def yo(a b:H):H:=⟨a.size,(mF a b).low,(mF a b).iv.drop ((mF a b).size-a.size)⟩
def CZ{h a:H}(d:Hp a)(e:h.size<=a.size){b:Nat}(c:b<h.size):(yo h a).get b=a.get b:=
 (MA (h:=mF h a) (by unfold Hp at*;exact d) e c).trans (iA h a b)
def iS.cut{a b:H}(c:iS 0 a)(d:Hp b)(e:a.size<=b.size):iS 0 (yo a b):=
 ⟨by unfold Hp at*;unfold yo mF;simp;omega,by have:=c.low;unfold yo mF;simp only;split<;>omega,aB _⟩
def BY(a:H)(f:T)(b:H)(post:T->H->Prop):Prop:=
 Hp b/\a.size<=b.size/\(∀c e,c<a.size->b.get c=D e->b.get c=a.get c\/∀g∈ir e.gU,sL a.size g)/\∃d,j4 b a.size f=D d/\post (cn d) (yo a b)
section
variable {P:ai}{cx:Ctx}{M:Nat}{ι:Type}{pre:ι->List T->H->Prop}{post:ι->List T->H->T->H->Prop}
def uB{tb:ik}(Z:P.follows .mixedOrders)(j9:jP P cx){m:aj}{g:Func}{t:DL}(j:H6 P cx m g M t)(k:List T->H->Nat)(ae:∀d q a,pre d q a->q.length<=g.ntmps)
 (aE:∀d b a,pre d b a->∀C,oZ C 0 b->W (kw cx (rY P cx tb) (k b a) M t (g.body.getD .skip) ⟨C,.nil⟩ (hr a)) (CJ cx M g.results.toList λo Q=>BY a (kJ o) Q (post d b a))):(jS ι pre post).Ok P cx m:=by
 intro b a ⟨aX,al⟩;have A:∀d,pre d b a->∃h c,wD cx (rY P cx tb) (k b a) g M true b a=D (h,mF a c)/\BY a h c (post d b a):=by
  intro d i;have⟨B,aA,_,S⟩:=oM M g.ntmps 0 b (ae d b a i);have⟨x,N,c,e,aN,o,ap,an⟩:=HX (aE d b a i B S);have e:=tV _ j.dr _ _ _ e;have⟨K,f⟩:=C6 j.ok;rw[f]at e;refine⟨_,c,?_,an⟩;unfold wD;rw[f];obtain⟨p,z,r⟩:=a;simp only;rw[aA,fj];have e:ll cx (rY P cx tb) (k b ⟨p,z,r⟩) M K ⟨B,.nil⟩ ⟨p,p,r⟩=D (x,N,c):=e;rw[e,fj,nK];have av:=rh ap;have Y:=zU z (kJ o) c;rcases aN with rfl|rfl<;>(simp only;rw[av,fj];exact Y)
 have⟨h,c,u,a7,a8,bi,bn,l,bs⟩:=A aX al;have U:sO P cx ⟨m,b,a,h,mF a c⟩:=λI w bp L s R=>sr (F:=⟨g,M,true,none⟩) Z j9 j.at_ j.ok _ (HJ P cx tb) (k b a) b a h (mF a c) u I w bp L s R;have X:=HM U (by unfold Hp at*;exact a7) a8 (λE y f v=>by rw[iA]at v|-;exact bi E y f v) (by rw[wO (iA a c)];exact l);refine⟨cn bn,yo a c,λd i=>?_,X⟩;have⟨r2,n,f,p1,p2,p3,bu,p4,p5⟩:=A d i;rw[u]at f;simp[ay,aI]at f;obtain⟨rfl,e⟩:=f;have O:j4 c a.size h=j4 n a.size h:=by rw[<-wO (iA a c),e,wO (iA a n)]
 rw[O,p4]at l;cases l;have:yo a c=yo a n:=by unfold yo;rw[e]
 rw[this];exact p5
end
end
end
end Go.TI
namespace Go.Proofs.YtnfojkibhgjfmaaGreatDoor
noncomputable section
open Go Go.TI Tryz
section
attribute [-simp] List.map_take List.map_drop List.map_append
def E7:iE:=⟨List Int×Int,λa=>[sl (a.1.map (T.int .i64)),J a.2],λa=>a.1.length<=1099511627776,λa=> .ej (decide (a.2∈a.1)),λa c b=>by
 simp at b;rw[j3 V b.1,b.2]⟩
def af5:E7.Ok prog cx 77:=by refine iz [] (js 131635 [] func77) (λg=>g.1.length+1) (by simp[E7]) ?_;rintro⟨b,d⟩ hl a f;simp[E7]at hl f|-;simp[f77];refine gW b.length G (λc a e=>e=hE/\TI.Y a 0=D (sl (b.map (T.int .i64)))/\TI.Y a 1=D (J d)/\TI.Y a 5=D (J c)/\(d∈b.drop c↔d∈b)) ?_ ?_ G (by simp[f]);rintro c a e k m ⟨rfl,h,i,j,l⟩;have n:=aL k;by_cases o:b[c]=d;simp[*];grind;simp[*];grind;rintro a e ⟨rfl,h,i,j,l⟩;simp[*];grind
def Ph{c:ik}(ht:c.p 77=D E7)(a:List Int)(b:Int)(hl:a.length<=1099511627776):rl prog cx c 77 [sl (a.map (T.int .i64)),J b]=D (.ej (decide (b∈a))):=iF ht af5 (a,b) hl
def uP:iE:=⟨List Int×List Int,λa=>[sl (a.1.map (T.int .i64)),sl (a.2.map (T.int .i64))],λa=>a.1.length<=1099511627776/\a.2.length<=1099511627776,λa=> .ej (decide (a.1=a.2)),λa c b=>by
 simp at b;rw[j3 V b.1,j3 V b.2]⟩
def Oc:uP.Ok prog cx 43:=by refine iz [] (js 33571891 [] func43) (λj=>j.1.length+1) (by simp[uP]) ?_;rintro⟨a,b⟩ hl d h;simp[uP]at hl h|-;obtain⟨f,g⟩:=h;by_cases i:a.length=b.length;simp[*,f43];rw[<-i];refine gW a.length G (λc d e=>e=hE/\TI.Y d 0=D (sl (a.map (T.int .i64)))/\TI.Y d 1=D (sl (b.map (T.int .i64)))/\TI.Y d 5=D (J c)/\(a.drop c=b.drop c↔a=b)) ?_ ?_ G (by simp[*]);rintro c d e l o ⟨rfl,f,g,k,n⟩;have p:=aL l;have m:c<b.length:=G;have q:=aL m;by_cases r:a[c]=b[c];simp[*];grind;simp[*];grind;rintro d e ⟨rfl,f,g,k,n⟩;simp[*];grind;have s:a≠b:=λe=>i (by rw[e]);have t:¬((a.length:Int)=b.length):=G;simp[*,f43]
def SZ{c:ik}(ht:c.p 43=D uP)(a b:List Int)(hl:a.length<=1099511627776)(d:b.length<=1099511627776):rl prog cx c 43 [sl (a.map (T.int .i64)),sl (b.map (T.int .i64))]=D (.ej (decide (a=b))):=iF ht Oc (a,b) ⟨hl,d⟩
def xl:List Int->Int->List Int
 | [],a=>[a]
 |x::b,a=>if x<a then x::xl b a else if x=a then x::b else a::x::b
def NS:iE:=⟨List Int×Int,λa=>[sl (a.1.map (T.int .i64)),J a.2],λa=>a.1.length<=1099511627776,λa=>sl ((xl a.1 a.2).map (T.int .i64)),λa c b=>by
 simp at b;rw[j3 V b.1,b.2]⟩
def afY:NS.Ok prog cx 137:=by refine iz [] (js 4295229555 [] func137) (λz=>z.1.length+1) (by simp[NS]) ?_;rintro⟨a,g⟩ hl i y;simp[NS]at hl y|-;simp[f137];refine gW a.length G (λb i u=>u=hE/\TI.Y i 0=D (sl (a.map (T.int .i64)))/\TI.Y i 1=D (J g)/\TI.Y i 5=D (J b)/\xl a g=a.take b++xl (a.drop b) g) ?_ ?_ G (by simp[y]);rintro b i u e E ⟨rfl,c,h,d,k⟩;have n:=aL e;by_cases j:a[b]<g;simp[c,h,d,e,j,E];rw[k,n,xl,ax j,aT e,aQ,List.singleton_append];by_cases o:a[b]=g;simp[c,h,d,e,o];rw[k,n,xl,aw j,ax o,<-n,da];simp[c,h,d,e,j,o,bP e];have v:vQ (H.cons hE (dU 1 0 [])) 0 (.arr 0 0 0 0 false) 1 (([]:List Int).map (T.int .i64)):= .inr ⟨0,0,0,true,V,rfl,V⟩;have⟨F,A,p,w,r⟩:=v.Zv (cx:=cx) (aB _) kE rfl nc rfl V V (a.take b) dP;simp[p];have⟨I,B,q,x,s⟩:=w.WP (cx:=cx) (aB _) kE rfl nc rfl V V g dP;simp[q,c,h,d,bP e];have⟨K,C,m,l,t⟩:=x.Zv (cx:=cx) (aB _) kE rfl nc rfl V V (a.drop b) dP;simp[m,l.iW,l.fzM (f:=T.int .i64) V];refine⟨t.hp (s.hp (r.hp V)),?_⟩;rw[k,n,xl,aw j,aw o];rintro i u ⟨rfl,c,h,d,k⟩;simp[c,d];have v:vQ (H.cons hE (dU 1 0 [])) 0 (.arr 0 0 0 0 false) 1 (([]:List Int).map (T.int .i64)):= .inr ⟨0,0,0,true,V,rfl,V⟩;have⟨F,A,p,w,r⟩:=v.Zv (cx:=cx) (aB _) kE rfl nc rfl V V a dP;simp[p];have⟨I,B,q,x,s⟩:=w.WP (cx:=cx) (aB _) kE rfl nc rfl V V g dP;simp[q,c,h,d];have⟨K,C,m,l,t⟩:=x.Zv (cx:=cx) (aB _) kE rfl nc rfl V V [] dP;rw[bL]at m;simp[m,l.iW,l.fzM (f:=T.int .i64) V];refine⟨t.hp (s.hp (r.hp V)),?_⟩;rw[k];simp[xl]
def ahr{c:ik}(ht:c.p 137=D NS)(a:List Int)(b:Int)(hl:a.length<=1099511627776):rl prog cx c 137 [sl (a.map (T.int .i64)),J b]=D (sl ((xl a b).map (T.int .i64))):=iF ht afY (a,b) hl
def we:iE:=⟨Int×Nat,λa=>[J a.1,J a.2],λa=>True,λa=> .ej (jx a.1 a.2),λa c b=>by simp at b;rw[b.1,show a.2=c.2 by omega]⟩
def ab4:we.Ok prog cx 135:=by refine iz [] (js 19 [] func135) (λc=>1) (by simp[we]) ?_;rintro⟨b,e⟩ _ f a;simp[we]at a|-;by_cases d:0<=b<;>simp[*,f135,jx]
def Jn{c:ik}(ht:c.p 135=D we)(a:Int)(b:Nat):rl prog cx c 135 [J a,J b]=D (.ej (jx a b)):=iF ht ab4 (a,b) trivial
def DF:iE:=⟨fJ×Int×Int,λa=>[a.1.t,J a.2.1,J a.2.2],λa=>True,λa=> .ej (ky a.1 a.2.1 a.2.2),λa c b=>by simp at b;rw[fJ.inj b.1,b.2.1,b.2.2]⟩
def Yh:DF.Ok prog cx 136:=by
 refine iz [(135,we)] (js 606826398900554784047567 [] func136) (λk=>1) (by simp[DF]) ?_;rintro⟨j,a,i⟩ _ p d;simp[DF]at d|-;obtain⟨l,e,f⟩:=d;by_cases h:1<=a/\a<=23
 .have g:a=1\/a=2\/a=3\/a=4\/a=5\/a=6\/a=7\/a=8\/a=9\/a=10\/a=11\/a=12\/a=13\/a=14\/a=15\/a=16\/a=17\/a=18\/a=19\/a=20\/a=21\/a=22\/a=23:=G;rcases g with rfl|rfl|rfl|rfl|rfl|rfl|rfl|rfl|rfl|rfl|rfl|rfl|rfl|rfl|rfl|rfl|rfl|rfl|rfl|rfl|rfl|rfl|rfl
  case inr.inr.inr.inr.inr.inl|inr.inr.inr.inr.inr.inr.inl|inr.inr.inr.inr.inr.inr.inr.inl|inr.inr.inr.inr.inr.inr.inr.inr.inl|inr.inr.inr.inr.inr.inr.inr.inr.inr.inl|inr.inr.inr.inr.inr.inr.inr.inr.inr.inr.inl=>
   cases hl:jx i j.fQ.length;simp[*,f136,Jn,pT hl,ky];obtain⟨q,n,o⟩:=jm hl;simp[*,f136,Jn,ky,fO (fT.1 hl).1]
  all_goals simp [*,f136,Jn,ky]
 have b:∀c:Int,1<=c->c<=23->¬a=c:=λc e f m=>h G;simp[*,f136,ky,b 1,b 2,b 3,b 4,b 5,b 6,b 7,b 8,b 9,b 10,b 11,b 12,b 13,b 14,b 15,b 16,b 17,b 18,b 19,b 20,b 21,b 22,b 23]
def Ws{d:ik}(ht:d.p 136=D DF)(c:fJ)(a b:Int):rl prog cx d 136 [c.t,J a,J b]=D (.ej (ky c a b)):=iF ht Yh (c,a,b) trivial
def wi:iE:=⟨fJ×iq,λa=>[a.1.t,a.2.t],λa=>a.1.je.length<=1099511627776,λa=> .ej (m9 a.1 a.2),λa c b=>by simp at b;rw[fJ.inj b.1,iq.inj b.2]⟩
def Vb:wi.Ok prog cx 134:=by
 refine iz [] (js 2147484735 [] func134) (λi=>i.1.je.length+1) (by simp[wi]) ?_;rintro⟨a,g⟩ hl d h;simp[wi]at hl h|-;simp[f134,h];refine gW a.je.length G (λb d f=>f=H.cons (H.cons hE (dU 6 0 [a.t])) (dU 4 0 [g.t])/\TI.Y d 2=D (dY 0)/\TI.Y d 3=D (dY 1)/\TI.Y d 5=D (J b)/\(a.je.drop b).all (λe=>jx e.mN a.fQ.length)=a.je.all λe=>jx e.mN a.fQ.length) ?_ ?_ G V;rintro b d f o p ⟨rfl,j,k,l,c⟩;rw[aL o,cA]at c;by_cases m:(a.je[b]).mN<0;have:jx (a.je[b]).mN a.fQ.length=false:=by simp[jx];omega
 simp[*,m9,<-c];by_cases n:(a.fQ.length:Int)<=(a.je[b]).mN;have:jx (a.je[b]).mN a.fQ.length=false:=by simp[jx];omega
 simp[*,m9,<-c];have:jx (a.je[b]).mN a.fQ.length:=by simp[jx];omega
 rw[this,bj]at c;simp[*];rintro d f ⟨rfl,j,k,l,c⟩;have q:(a.je.all λe=>jx e.mN a.fQ.length):=by rw[<-c];simp
 by_cases m:g.fQ.length=a.fQ.length<;>by_cases n:g.done.length=a.fI.length<;>simp[*,m9,Int.natCast_inj]
def yu{c:ik}(ht:c.p 134=D wi)(a:fJ)(b:iq)(hl:a.je.length<=1099511627776):rl prog cx c 134 [a.t,b.t]=D (.ej (m9 a b)):=iF ht Vb (a,b) hl
def u5:iE:=⟨iq×Int,λa=>[a.1.t,J a.2],λa=>a.1.d8.length<=1099511627776,λa=>sl ((jh a.2 a.1.d8 0).map (T.int .i64)),λa c b=>by simp at b;rw[iq.inj b.1,b.2]⟩
def RV:u5.Ok prog cx 31:=by refine iz [] (js 1073743991 [] func31) (λy=>y.1.d8.length+1) (by simp[u5]) ?_;rintro⟨i,p⟩ hl e w;simp[u5]at hl w|-;simp[f31,w];refine gW i.d8.length G (λc e a=>Hp a/\1<=a.size/\a.get 0=D (dU 4 0 [i.t])/\TI.Y e 1=D (J p)/\TI.Y e 2=D (dY 0)/\TI.Y e 6=D (J c)/\∃u d,TI.Y e 5=D u/\vQ a 1 u 1 (d.map (T.int .i64))/\d.length<=c/\d++jh p (i.d8.drop c) c=jh p i.d8 0) ?_ ?_ G ?_;rintro c e a s x ⟨m,n,g,q,j,l,u,d,k,h,A,b⟩;rw[aL s,jh]at b;by_cases o:(i.d8[c]).jq=3;by_cases r:(i.d8[c]).cond=p;rw[ax ⟨o,r⟩]at b;have⟨E,C,z,B,v⟩:=h.WP (cx:=cx) n kE rfl nc rfl V V (c:Int) dP;simp[g,q,j,k,l,s,x,o,r,z];refine⟨v.hp m,aU n v.size,v.get 0 G▸g,_,B,dP,iD b⟩;rw[aw (λa=>r a.2)]at b;simp[g,q,j,k,l,s,x,o,r];exact⟨m,n,d,h,G,b⟩;rw[aw (λa=>o a.1)]at b;simp[g,q,j,k,l,s,x,o];exact⟨m,n,d,h,G,b⟩;rintro e a ⟨m,n,g,q,j,l,u,d,k,h,A,b⟩;simp[jh]at b;simp[g,j,k,l,h.iW,h.fzM (f:=T.int .i64) V,b,m];simp[w];exact vQ.nil _ _ _
def C3{c:ik}(ht:c.p 31=D u5)(a:iq)(b:Int)(hl:a.d8.length<=1099511627776):rl prog cx c 31 [a.t,J b]=D (sl ((jh b a.d8 0).map (T.int .i64))):=iF ht RV (a,b) hl
def Ub(a:List Int)(b:Int):(xl a b).length<=a.length+1:=by
 induction a with
 |nil=>simp[xl]
 |cons d a c=>rw[xl];split<;>(try split)<;>simp<;>omega
def nQ(a:List Int)(b:List Int):List Int:=b.foldl xl a
def Bt(a b:List Int):(nQ a b).length<=a.length+b.length:=by
 induction b generalizing a with
 |nil=>simp[nQ]
 |cons c b d=>
  have e:=d (xl a c);have f:=Ub a c;show(nQ (xl a c) b).length<=_;simp;omega
def EG(c b:List Int){a:Nat}(d:a<b.length):nQ c (b.take (a+1))=xl (nQ c (b.take a)) b[a]:=by rw[aT d];unfold nQ;rw[List.foldl_append];rfl
def Dk(a b:List Int):List Int:=nQ (nQ [] a) b
def oq:iE:=⟨fJ×iq×Int×Int×Int,λa=>[a.1.t,a.2.1.t,J a.2.2.1,J a.2.2.2.1,J a.2.2.2.2],λa=>a.1.je.length<=1099511627776/\a.2.1.sm,λa=> .ej (jM a.1 a.2.1 a.2.2.1 a.2.2.2.1 a.2.2.2.2),λa c b=>by
 simp at b;rw[fJ.inj b.1,iq.inj b.2.1,b.2.2.1,b.2.2.2.1,b.2.2.2.2]⟩
def afv:ik:=⟨pt [(135,we),(136,DF),(134,wi),(77,E7)],ht []⟩
@[simp]def ajr:afv.p=pt [(135,we),(136,DF),(134,wi),(77,E7)]:=a9
def LT:oq.Ok prog cx 78:=by
 refine yW (tb:=afv) jk iX (js 13215461614728367217751695970865548304603543200842114553566203007 [] func78) (λF=>1) (by simp[oq]) nl9 ?_;rintro⟨f,d,i,n,b⟩ ⟨hl,t⟩ W x;simp[oq]at hl t x|-;cases q:m9 f d with
 |false=>simp[*,f78,yu,jM]
 |true=>
  cases r:jx i f.d8.length with
  |false=>simp[*,f78,yu,Jn,jM]
  |true=>
   cases h:ky f n b with
   |false=>simp[*,f78,yu,Jn,Ws,jM]
   |true=>
    obtain⟨u,C,v⟩:=oN q;have s:=r;rw[<-v]at s;obtain⟨c,P,A⟩:=jm s;have S:=fO (fT.1 r).1;have hE:jM f d i n b=B0 f d i n b:=by simp[*,jM]
    have K:pW d i=c:=by simp[pW,A]
    rw[hE];simp[*,f78,yu,Jn,Ws];rcases xu h with rfl|rfl|rfl|rfl|rfl|rfl|rfl|rfl|rfl|g|g|g|g
    case inl|inr.inl|inr.inr.inl|inr.inr.inr.inl|inr.inr.inr.inr.inl|inr.inr.inr.inr.inr.inl|inr.inr.inr.inr.inr.inr.inl|inr.inr.inr.inr.inr.inr.inr.inl|inr.inr.inr.inr.inr.inr.inr.inr.inl=>
     by_cases j:c.jq=2<;>simp[*,B0]
    have a:=mM h g;rw[<-u]at a;obtain⟨e,o,p⟩:=jm a;have m:=fO (fT.1 a).1;have k:oX d b=e:=by simp[oX,p]
    have R:e.fZ.length<=1099511627776:=iH (t.2.2.2 e (aD o));by_cases j:c.jq=2;by_cases U:e.jY=-1<;>rcases g with rfl|rfl|rfl|rfl|rfl|rfl<;>simp[*,B0,Ph]
    rcases g with rfl|rfl|rfl|rfl|rfl|rfl<;>simp[*,B0];have a:=qC h g;obtain⟨H,y,L⟩:=jm a;have m:=fO (fT.1 a).1;have l:=vH q y;rw[<-u]at l;obtain⟨e,o,p⟩:=jm l;have O:=fO (fT.1 l).1;have k:vI f d b=e:=by simp[*,vI,oX]
    by_cases j:c.jq=2;rcases g with rfl|rfl|rfl|rfl<;>simp[*,B0];by_cases I:c.jq=4;by_cases M:c.cond=b<;>rcases g with rfl|rfl|rfl|rfl<;>simp[*,B0]
    rcases g with rfl|rfl|rfl|rfl<;>simp[*,B0];have a:=AG h g;rw[<-v]at a;obtain⟨E,T,B⟩:=jm a;have m:=fO (fT.1 a).1;have k:pW d b=E:=by simp[pW,B]
    by_cases j:c.jq=2;by_cases Q:b=i<;>rcases g with rfl|rfl<;>simp[*,B0]
    rcases g with rfl|rfl<;>simp[*,B0];have a:=uQ h g;rw[<-C]at a;obtain⟨w,N,z⟩:=jm a;have m:=fO (fT.1 a).1;have k:HD d b=w:=by simp[HD,z]
    by_cases j:c.jq=2;rcases g with rfl|rfl<;>simp[*,B0];rcases g with rfl|rfl<;>simp[*,B0]
def yv{f:ik}(ht:f.p 78=D oq)(b:fJ)(a:iq)(e c d:Int)(hl:b.je.length<=1099511627776)(g:a.sm):rl prog cx f 78 [b.t,a.t,J e,J c,J d]=D (.ej (jM b a e c d)):=iF ht LT (b,a,e,c,d) ⟨hl,g⟩
