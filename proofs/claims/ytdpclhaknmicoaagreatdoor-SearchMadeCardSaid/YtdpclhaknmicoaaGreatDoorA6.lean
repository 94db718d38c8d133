/- DFun -/
import Derived.Test.YtdpclhaknmicoaaGreatDoorA5
import Derived.Test.YtdpclhaknmicoaaGreatDoorProg
set_option linter.all false
set_option maxRecDepth 100000
set_option maxHeartbeats 0
namespace Go.Proofs.YtdpclhaknmicoaaGreatDoor
noncomputable section
open Go Go.TI Tryz
def ml:prog.follows .mixedOrders=true:=em
def aai:j8.YP λb a=>dW prog b a.cmp=G a:=by unfold j8;repeat' first|exact .nil|refine .node ?_ em ?_
def kl:jR prog cx:=⟨λb c a=>⟨_,aai.find a⟩⟩
end
end Go.Proofs.YtdpclhaknmicoaaGreatDoor
namespace Go.TI
noncomputable section
section
def hr(a:H):H:=⟨a.size,a.size,a.iA⟩
@[simp]def uX (a:H):(hr a).size=a.size:=a9
@[simp]def iZ (a:H) (b:Nat):(hr a).get b=a.get b:=H.vj a a.size b
@[simp]def afO (a:H):Hp (hr a)=Hp a:=a9
def Qw(f:Bool)(c:H)(g:List T)(e:H)(d:T->H->Prop):Prop:=∃b a,GE f c.size c.low (ky g) e=G (b,a)/\(d b a\/d (cn b) a)
section
variable {P:ai}{cx:Ctx}{cf:jS}{V:Nat}
def ads(N:P.follows .mixedOrders)(j8:jR P cx){l:aj}{b:Func}{r:DL}(h:Ea P cx l b V r)(C:qx P cx cf)(n:Bool){a:List T}{c:H}{u:T->H->Prop}(O:a.length<=b.ntmps)(i:Nat)
 (S:∀z,oz z 0 a->W (kN cx cf i V r (b.body.getD .skip) ⟨z,.nil⟩ (hr c)) (AJ cx V b.results.toList λt f=>Qw n c t f u)):∃d f,u d f/\tI P cx ⟨l,a,c,d,f⟩:=by
 have⟨y,R,_,I⟩:=o7 V b.ntmps 0 a O;have⟨x,D,E,e,U,t,Q,d,g,hl,hp⟩:=Hz (S y I);have e:=uj _ h.dr _ _ _ e;have⟨B,s⟩:=C1 h.ok;rw[s]at e;have K:wM cx cf i b V n a c=G (d,g):=by
  unfold wM;rw[s];obtain⟨w,ap,A⟩:=c;simp only;rw[R,fw];have e:lV cx cf i V B ⟨y,.nil⟩ ⟨w,w,A⟩=G (x,D,E):=e;rw[e,fw,nV];rcases U with rfl|rfl<;>(simp only;rw[(rL Q),fw];exact hl)
 have L:tI P cx ⟨l,a,c,d,g⟩:=λj p q k o m=>sP (F:=⟨b,V,n,none⟩) N j8 h.at_ h.ok cf C i a c d g K j p q k o m;rcases hp with hp|hp
 grind
 exact⟨cn d,g,hp,λj p q k o m=>(L j p q k o m).mono λv ar ⟨⟨ao,X,Z,ae,al⟩,an⟩=>⟨⟨ao,X.cn,Z,ae,al⟩,an⟩⟩
def MY{tb:iq}{c:mM}(l:P.follows .mixedOrders)(j8:jR P cx){f:aj}{d:Func}{e:DL}(o:Ea P cx f d V e)(i:Bool)(j:List T->H->Nat)(m:∀a b,c.pre a b->a.length<=d.ntmps)
 (n:∀a b,c.pre a b->∀k,oz k 0 a->W (kN cx (r7 P cx tb) (j a b) V e (d.body.getD .skip) ⟨k,.nil⟩ (hr b)) (AJ cx V d.results.toList λp g=>Qw i b p g (c.post a b))):c.Ok P cx f:=
 λa b h=>by
  have⟨s,g,q,r⟩:=ads l j8 o (Hk P cx tb) i (m a b h) (j a b) (n a b h)
  grind
end
def aaf{P:ai}{cx:Ctx}{cf:jS}{V:Nat}(L:P.follows .mixedOrders)(j8:jR P cx){p:aj}{c:Func}{y:DL}(j:Ea P cx p c V y)(E:qx P cx cf){b:List T}{m:T->Prop}(hl:om b)(A:b.length<=c.ntmps)(k:Nat)
 (O:∀f,oz f 0 b->W (kN cx cf k V y (c.body.getD .skip) ⟨f,.nil⟩ hE) (AJ cx V c.results.toList λC g=>∃a,m a/\OV g C a)):∃a,m a/\ni P cx p b a:=by
 have ae:∃a,m a/\∀f,oz f 0 b->TI.mB f 0=TI.mB f 0->∃d,cn d=a/\wM cx cf k c V false b hE=G (d,hE):=by
  have⟨l,B,_,s⟩:=o7 V c.ntmps 0 b A;have⟨x,H,g,e,Q,C,hr,a,r,N,i⟩:=Hz (O l s);have e:=uj _ j.dr _ _ _ e;have⟨D,h⟩:=C1 j.ok;rw[h]at e;unfold RQ at i;have⟨d,i,z⟩:=eQ.1 i;simp[aw]at z;refine⟨a,r,λ_ _ _=>⟨d,z,?_⟩⟩;unfold wM;rw[h];simp only;rw[B,fw];have e:lV cx cf k V D ⟨l,.nil⟩ ⟨0,0,[]⟩=G (x,H,g):=e;rw[e,fw,nV];rcases Q with rfl|rfl<;>(simp only;rw[(rL hr),fw];exact LM N i)
 obtain⟨a,r,K⟩:=ae;have⟨l,B,_,s⟩:=o7 V c.ntmps 0 b A;obtain⟨d,rfl,h⟩:=K l s rfl;refine⟨cn d,r,?_⟩;have I:ni P cx p b d:=E0 (nl _ hl) λn u w o t q=>
  sP (F:=⟨c,V,false,none⟩) L j8 j.at_ j.ok cf E k b hE d hE h n u w o t q
 intro n u w o g t q;refine(I n u w o g t q).mono λv an ⟨⟨al,R,S,U,X⟩,Z⟩=>?_;exact⟨⟨al,R.cn,S,U,X⟩,Z⟩
def MR(b:T):Prop:=∃a,b= .bool a
def zy(a:Nat)(d:T)(b:H):qm a d b=G (d,⟨b.size,if b.low<a then b.low else a,b.iA⟩):=by obtain⟨f,c,e⟩:=b;show @Bool.rec (λ_=>aa (T×H)) (some (d,⟨f,a,e⟩)) (some (d,⟨f,c,e⟩)) (Nat.blt c a)=_;by_cases hl:c<a;rw[show Nat.blt c a=true from aQ▸hl,au hl];rw[show Nat.blt c a=false by rw[cK];intro g;rw[aQ]at g;omega,aq hl]
def L5{h:H}(f:Hp h){a d:Nat}(e:a<=h.size){b:Nat}(c:b<a):(⟨a,d,h.iA.drop (h.size-a)⟩:H).get b=h.get b:=by
 rw[H.get_eq,H.get_eq];simp only;rw[au c,au J,cu]
 grind
def ug(a b:H)(j:List T){r:T}{k:T->H->Prop}(t:Hp a)(c:Fr a.size (hr a) b)(f:(Z (kI b a.size (ky j)) λq=>some (cn q))=G r)(n:k r a):Qw false a j b k:=by
 have⟨p,f,i⟩:=eQ.1 f;simp[aw]at i;unfold Qw GE;simp[f];have u:=c.hp (by simp_all);have m:a.size<=b.low:=c.low (ay _);have s:a.size<=b.size:=c.size;have e:b.iA.drop (b.size-a.size)=a.iA:=by
  apply dB;intro d;rw[cu];rcases aR d a.size with hi|hi
  have h:=c.get (a.size-1-d) J;rw[iZ,H.get_eq,H.get_eq,au J,au J]at h;rw[show b.size-a.size+d=b.size-1-(a.size-1-d)by omega,h]
  grind
  grind [Hp,cj]
 obtain⟨l,o,g⟩:=b;unfold xD;simp only;rw[ox,au (by grind [Hp]),fw,show Nat.ble a.size o=true from cQ m];refine⟨p,_,rfl,.inr ?_⟩;rw[i];have:(⟨a.size,a.low,List.drop (Nat.sub l a.size) g⟩:H)=a:=by
  have e:List.drop (Nat.sub l a.size) g=a.iA:=e;rw[e]
 rw[this];exact n
end
section
noncomputable section
variable {cx:Ctx}{V:Nat}{e:Env}{h:H}
end
end
section
structure jk(n:Nat)(h:H):Prop where
 hp:Hp h
 low:h.low<=h.size
 sz:n<=h.size
theorem jk.cons{c:Nat}{b:H}(a:jk c b)(d:jO):jk c (b.cons d):=⟨iC a.hp,by simp[UB];have:=a.low;grind [H.cons],by have:=a.sz;grind [H.cons]⟩
def jk.ne{c:Nat}{a:H}(d:jk c a){b:Nat}(e:b<c):(b=a.size)=False:=by have:=d.sz;grind
def jk.Dc{d c:Nat}{b:H}(a:jk d b)(e:c<=d):jk c b:=⟨a.hp,a.low,aV e a.sz⟩
def K3(b:H)(c:Nat)(f:jO):(fQ b c f).low<=b.low:=by
 unfold fQ;rcases a:b.put c f with _|g
 simp;obtain⟨j,e,h⟩:=b;have a:=a;have⟨_,a⟩:=fq.1 a;have⟨i,_,a⟩:=eQ.1 a;show g.low<=e;cases d:Nat.blt c e<;>rw[d]at a<;>simp[aw]at a<;>subst a;simp;rw[aQ]at d;grind
theorem jk.put{n:Nat}{a:H}(b:jk n a)(c:Nat)(y:jO):jk n (fQ a c y):=⟨by simpa using b.hp,by rw[iB];exact aV (K3 a c y) b.low,by rw[iB];exact b.sz⟩
structure uo(sz:Nat)(h h':H):Prop where
 get:∀c x,h.get c=G x->x.sz≠sz->h'.get c=G x
 ok:∀n,jk n h->jk n h'
 size:h.size<=h'.size
def uo.refl(d:Nat)(a:H):uo d a a:=⟨λ_ _ b _=>b,λ_ c=>c,ay _⟩
def uo.trans{c:Nat}{e f g:H}(a:uo c e f)(b:uo c f g):uo c e g:=⟨λd j k h=>b.get d j (a.get d j k h) h,λi l=>b.ok i (a.ok i l),aV a.size b.size⟩
theorem uo.cons(e:Nat)(a:H)(c:jO):uo e a (a.cons c):=⟨λf h b _=>by have:=H.fV b;rw[fH,aq J];exact b,λg d=>d.cons c,Y⟩
theorem uo.put{c:Nat}{b:H}{a:Nat}{x:jO}(d:b.get a=G x)(h:x.sz=c)(y:jO):uo c b (fQ b a y):=⟨λf j g i=>by
 rw[fj d]
 grind,λn e=>e.put a y,Y⟩
def wc.agv{cx:Ctx}{a:H}{d:T}{b:Nat}{e:List T}(r:wc a 0 d b e){n o j:ab}{t v c:Ty}(A:cx.ty n=G t)(B:t.u= .slice j)(C:cx.ty j=G c)(D:cx.ty o=G v)(E:v.u= .slice j)(s:c.size=b)(q:1<=c.bytes)
 {x:T} {xs:List T} (K:a.kd x=G xs) (l:∀y∈xs,y.cells.length=b) (I:(e.length+xs.length)*c.bytes<=70368744177664):
 ∃w k,jE cx a n o d x=be w k/\wc k 0 w b (e++xs)/\uo b a k:=by
 have F:jE cx a n o d x=kJ (a.append c.size c.bytes d xs):=by
  unfold jE tu pP;rw[A,fw,D,fw];simp[B,C,E,K,fw];rw[s,nD l,iP]
 rw[F,s];rcases xs with _|⟨f,g⟩
 refine⟨d,a,?_,by grind,uo.refl _ _⟩;show kJ (iX (vM d) (some (d,a)))=_;rcases r with⟨rfl,_⟩|⟨h,i,p,z,_,rfl,_⟩<;>rfl
 rcases r with⟨rfl,rfl⟩|⟨h,i,p,z,L,rfl,m⟩;refine⟨.arr a.size 0 0 (f::g).length false,a.cons ⟨b,0,0,false,false,f::g⟩,?_,.inr ⟨a.size,0,0,false,az _,rfl,Y⟩,uo.cons _ _ _⟩;show kJ (a.ku b c.bytes [] (f::g))=_;rw[sa l q c5];rfl;refine⟨.arr h (i+1) 0 (e++f::g).length false,fQ a h ⟨b,i+1,p+1,false,false,e++f::g⟩,?_,.inr ⟨h,i+1,p+1,false,L,rfl,by rw[fj m,au rfl]⟩,uo.put m rfl _⟩;show kJ (a.o6 b c.bytes h i e.length (f::g))=_;rw[z9 m l q I];rfl
def wc.Z3{cx:Ctx}{f:H}{o:T}{b:Nat}{i:Type}{a:i->T}{e:List i}(s:wc f 0 o b (e.map a)){g k:ab}{n d:Ty}(l:cx.ty g=G n)(m:n.u= .slice k)(p:cx.ty k=G d)(t:d.size=b)(q:1<=d.bytes)
 (r:∀x,Oq (a x)=b) (xs:List i) (v:(e.length+xs.length)*d.bytes<=70368744177664):
 ∃h c,jE cx f g g o (sl (xs.map a))=be h c/\wc c 0 h b ((e++xs).map a)/\uo b f c:=by
 have⟨h,c,w,y,z⟩:=s.agv (x:=sl (xs.map a)) (xs:=xs.map a) l m p l m t q Y (iC (λj _=>show(a j).cells.length=b from r j)) c5
 grind
def wc.OL{cx:Ctx}{c:H}{n:T}{a:Nat}{i:Type}{b:i->T}{g:List i}(r:wc c 0 n a (g.map b)){h j:ab}{m e:Ty}(k:cx.ty h=G m)(l:m.u= .slice j)(o:cx.ty j=G e)(s:e.size=a)(p:1<=e.bytes)
 (q:∀x,Oq (b x)=a) (x:i) (y:(g.length+1)*e.bytes<=70368744177664):
 ∃f d,jE cx (c.cons ⟨a,0,0,true,false,[b x]⟩) h h n (.arr c.size 0 0 1 false)=be f d/\wc d 0 f a ((g++[x]).map b)/\uo a c d:=by
 have⟨f,d,t,v,w⟩:=(r.cons ⟨a,0,0,true,false,[b x]⟩).agv (x:= .arr c.size 0 0 1 false) (xs:=[b x]) k l o k l s p d4 (iC (show(b x).cells.length=a from q x)) c5;exact⟨f,d,t,List.map_append▸v,(uo.cons _ _ _).trans w⟩
def u5{i:Env->H->Out}(b:Nat)(e:Nat->iM->H->Prop){h:jH}
 (n:∀k c a,k<=b->e k c a->W (i ⟨c,.nil⟩ a) (By (λd a=>d.tmps= .nil/\∃f,k<f/\f<=b/\e f d.vars a) h)) {g:Nat} (o:b<g) {k:Nat} (l:k<=b) {c:iM} {a:H} (j:e k c a):W (su i g ⟨c,.nil⟩ a) h:=by
 refine HB (σ:=Nat) (I:=λk d a=>k<=b/\d.tmps= .nil/\e k d.vars a) (m:=λk=>b-k) ?_ g k _ _ J ⟨l,rfl,j⟩;rintro k ⟨c,p⟩ a ⟨l,ht,j⟩
 grind
section
variable {cx:Ctx}
@[simp]def XT (c:Nat) (a b:List T):eqFields cx [] c a b=G true:=a9
def BE{a:Ty}{d:List (Nat×ab)}(e:a.u= .struct d)(f:a.cmp)(b c:List T):I2 cx a (.agg b) (.agg c)=eqFields cx d 0 b c:=by unfold I2;rw[e];simp_all
@[simp]def Dx (a:ak):(U.int a).plain=true:=a9
@[simp]def F9:U.bool.plain=true:=a9
end
end
section
section
variable {P:ai}{cx:Ctx}
def Hn{f:aj}{u:List T}{b c:H}{I K:T}(S:tI P cx ⟨f,u,b,I,c⟩)(al:Hp c)(B:b.size<=c.size)
 (U:∀a h,a<b.size->c.get a=G h->c.get a=b.get a\/∀o∈iy h.im,tF b.size o) (V:kI c b.size I=G K):
 tI P cx ⟨f,u,b,cn K,⟨b.size,c.low,c.iA.drop (c.size-b.size)⟩⟩:=by
 intro N w s O r j;refine(S N w s O r j).mono λo ar ⟨⟨t,an,E,g,l⟩,q⟩=>?_;have x:∀a e,s a=G e->a<b.size:=λa e d=>r.fV d;have l:BT s t b.size c.size:=l;have hl:∀a e h,a<b.size->t a=G e->c.get a=G h->∀o∈iy h.im,tF b.size o:=by
  intro a e h d j C;rcases U a h d C with he|he
  rcases l.2.1 a (by rw[j];simp)with k|k;have⟨L,R⟩:=Option.ne_none_iff_exists'.1 k;have⟨av,p,ae⟩:=r.box a L R;rw[<-he,C]at p;cases p;exact ae.low x;omega;omega
 have v:=St.cut (low:=c.low) E B hl;have z:∀a,a<b.size->(⟨b.size,c.low,c.iA.drop (c.size-b.size)⟩:H).get a=c.get a:=λa d=>L5 al B d;refine⟨⟨pH b.size t,(yD E an V).cn,v,⟨⟨g.ext.size,λi W Z=>?_,λa e d=>?_,g.ext.qJ,g.ext.kept⟩,g.os,g.tape,g.output⟩,ay _,λa d=>?_,λa F m=>absurd F (by show¬b.size<=a;have m:a<b.size:=m;omega)⟩,?_⟩;have⟨ao,ap⟩:=g.ext.Bo i W Z
 grind [As]
 rw[xP (x a e d)];exact g.ext.mu a e d;left;have⟨e,j⟩:=Option.ne_none_iff_exists'.1 d;have⟨F,m⟩:=lK j;rcases l.2.1 a (by rw[m];simp)with k|k
 exact k;omega;refine⟨v.wf,ay _,q.low,λa d X=>?_,λa y D=>?_⟩;rw[z a d];exact q.mO a d X;rw[z a (H.fV D)];exact q.ver a y D
def N8{c d:H}(e:∀a,d.get a=c.get a)(n:Nat):∀b,freeze d n b=freeze c n b:=by grind [freeze,iN,Z,takeN,lJ,Nat.beq,iX,Nat.ble]
def wV{a b:H}(i:∀e,b.get e=a.get e)(n:Nat)(c:T):kI b n c=kI a n c:=by
 have g:kh b n=kh a n:=by funext d;cases d<;>(unfold kh;simp[N8 i])
 have h:mw b n=mw a n:=by funext d;cases d<;>(unfold mw;simp[g])
 cases c<;>(unfold kI;simp[h])
end
def FT(e:H)(c:Nat->Prop):Nat->T->T->Prop
 |0,_,_=>False
 |d+1,a,g=>(lr a/\(∀b,a≠ .agg b)/\g=cn a)\/
  (∃h l o m f j k,a= .arr h l o m f/\c h/\e.kd a=G j/\jw (FT e c d) j k/\g=sl k)\/
  (∃b i,a= .agg b/\jw (FT e c d) b i/\g= .agg i)
def jw.imp_mem{α h:Type}{d R':α->h->Prop}{c:List α}{g:List h}(i:jw d c g)(e:∀a∈c,∀b,d a b->R' a b):jw R' c g:=by
 induction i with
 |nil=>exact .nil
 |cons a _ j=>exact .cons (e _ Y _ a) (j λk l b=>e k c5 b)
def uf{α d:Type}{f:α->aa d}{b:List α}{c:List d}(g:jw (λa e=>f a=G e) b c):iN f b=G c:=by
 induction g with
 |nil=>rfl
 |cons a _ h=>rw[kv,a,h];rfl
def FT.AX{h:H}{Vq:Nat->Prop}:∀{d:Nat} {v t:T},FT h Vq d v t->TI.AX h d v=G t:=by
 intro d;induction d with
 |zero=>intro v t c;exact c.elim
 |succ d g=>
  intro v t c;rcases c with⟨j,k,rfl⟩|⟨e,p,u,s,f,q,r,rfl,_,l,a,rfl⟩|⟨m,o,rfl,a,rfl⟩
  unfold TI.AX;rw[wL h 0 d v j k];rfl;rw[BC,l,fw,uf (a.imp λi e b=>g b)];rfl;rw[XP,uf (a.imp λi e b=>g b)];rfl
def LR{c d:H}{a b g e:Nat}{f:Bool}(h:d.get a=c.get a):d.kd (.arr a b g e f)=c.kd (.arr a b g e f):=by rw[iW,iW,h]
def FT.mono{k h':H}{i j:Nat->Prop}(m:∀a,i a->j a/\h'.get a=k.get a):∀{b:Nat} {e d:T},FT k i b e d->FT h' j b e d:=by
 intro b;induction b with
 |zero=>intro e d c;exact c.elim
 |succ b o=>
  intro e d c;rcases c with c|⟨a,s,x,w,f,t,u,rfl,l,v,g,rfl⟩|⟨q,r,rfl,g,rfl⟩
  exact .inl c;exact .inr (.inl ⟨a,s,x,w,f,t,u,rfl,(m a l).1,LR (m a l).2▸v,g.imp λp a h=>o h,rfl⟩);exact .inr (.inr ⟨q,r,rfl,g.imp λp a h=>o h,rfl⟩)
def FT.deep{k:H}{j:Nat->Prop}:∀{b a:Nat} {e d:T},b<=a->FT k j b e d->FT k j a e d:=by
 intro b;induction b with
 |zero=>intro a e d _ c;exact c.elim
 |succ b l=>
  intro a e d y c;obtain⟨a,rfl⟩:∃q,a=q+1:=⟨a-1,J⟩;rcases c with c|⟨g,r,x,w,f,s,t,rfl,u,v,h,rfl⟩|⟨o,p,rfl,h,rfl⟩
  exact .inl c;exact .inr (.inl ⟨g,r,x,w,f,s,t,rfl,u,v,h.imp λm g i=>l J i,rfl⟩);exact .inr (.inr ⟨o,p,rfl,h.imp λm g i=>l J i,rfl⟩)
def FT.fz{h:H}{Vq:Nat->Prop}{v t:T}(l:FT h Vq 12 v t):TI.fz h v=G t:=by rcases l with⟨i,e,rfl⟩|⟨g,o,s,r,f,p,q,rfl,e,j,a,rfl⟩|⟨b,c,rfl,a,rfl⟩;show(Z (kh h 0 v) λv=>some (cn v))=_;rw[uF h i e];rfl;rw[yh,j,fw,uf (a.imp λm g k=>k.AX)];rfl;have:=FT.AX (h:=h) (Vq:=Vq) (d:=12) (v:= .agg b) (t:= .agg c) (.inr (.inr ⟨b,c,rfl,a,rfl⟩));exact this
@[simp]def jh (d:H) (b:Nat->Prop) (c:Nat) (a:ak) (n:Int):FT d b (c+1) (.int a n) (.int a n):= .inl ⟨Y,Y,Y⟩
@[simp]def lL (d:H) (b:Nat->Prop) (c:Nat) (a:List Nat):FT d b (c+1) (.str a) (.str a):= .inl ⟨Y,Y,Y⟩
theorem uq(g:H)(d:Nat->Prop)(e:Nat){a:List T}(c:∀b∈a,cn b=b):FT g d (e+1) (sl a) (sl a):=by
 refine .inl ⟨Y,by cases a<;>simp[sl],?_⟩;rw[P4];congr 1;induction a with
 |nil=>rfl
 |cons b k h=>rw[aS,c b Y,<-h λi j=>c i c5]
def kj(c:H)(a:Nat->Prop)(b:Nat)(f:Bool):FT c a (b+1) (.fg [] f) (sl []):= .inl ⟨Y,Y,by rw[qr];rfl⟩
section
variable {cx:Ctx}{cf:jS}{V n:Nat}{dl:DL}
def ij(b e:Code)(c:Env)(d:H)(a:jH):CK (some (.bool true)) cx cf n V dl b e c d a=W (kN cx cf n V dl b c d) a:=rfl
def gH(e b:Code)(c:Env)(d:H)(a:jH):CK (some (.bool false)) cx cf n V dl e b c d a=W (kN cx cf n V dl b c d) a:=rfl
def fO{d:Bool}{e g:Code}{b:Env}{c:H}{a:jH}(h:d->W (kN cx cf n V dl e b c) a)(i:d=false->W (kN cx cf n V dl g b c) a):CK (some (.bool d)) cx cf n V dl e g b c a:=by simp_all
end
def wR(P:ai)(cx:Ctx)(f:aj){α:Type}(A:α->List T)(pre:α->Prop)(Q:α->T->Prop):iF:=
 ⟨α,A,pre,λa=>Classical.epsilon λc=>(∀b,A b=A a->Q b c)/\ni P cx f (A a) c,λa b d=>by grind⟩
section
variable {P:ai}{cx:Ctx}{f:aj}{α:Type}{A:α->List T}{pre:α->Prop}{Q:α->T->Prop}
theorem O6(e:∀a b,A a=A b->a=b){a:α}(g:∃c,Q a c/\ni P cx f (A a) c):Q a ((wR P cx f A pre Q).R a)/\ni P cx f (A a) ((wR P cx f A pre Q).R a):=by
 have d:∃c,(∀b,A b=A a->Q b c)/\ni P cx f (A a) c:=by
  grind
 have:=Classical.epsilon_spec d;exact⟨this.1 a rfl,this.2⟩
theorem adt(d:∀a b,A a=A b->a=b)(g:∀a,pre a->∃c,Q a c/\ni P cx f (A a) c):(wR P cx f A pre Q).Ok P cx f:=λa e=>(O6 d (g a e)).2
def yQ{tb:iq}{c:Func}{V:Nat}{dl:DL}(i:P.follows .mixedOrders)(j8:jR P cx)(l:Ea P cx f c V dl)(n:α->Nat)(o:∀a d,A a=A d->a=d)(hl:∀a,om (A a))(j:∀a,(A a).length<=c.ntmps)
 (k:∀a,pre a->∀g,oz g 0 (A a)->W (kN cx (r7 P cx tb) (n a) V dl (c.body.getD .skip) ⟨g,.nil⟩ hE) (AJ cx V c.results.toList λm e=>∃b,Q a b/\OV e m b)):(wR P cx f A pre Q).Ok P cx f/\∀a,pre a->Q a ((wR P cx f A pre Q).R a):=by
 have e:∀a,pre a->∃b,Q a b/\ni P cx f (A a) b:=λa h=>aaf i j8 l (Hk P cx tb) (hl a) (j a) (n a) (k a h)
 grind [O6,adt]
def p8(P:ai)(cx:Ctx)(f:aj)(A:α->List T)(pre:α->Prop)(Q:α->T->Prop):Prop:=(wR P cx f A pre Q).Ok P cx f/\∀a,pre a->Q a ((wR P cx f A pre Q).R a)
def EV(d:α->Nat)(step:∀c,p8 P cx f A (λa=>pre a/\d a<c) Q->p8 P cx f A (λa=>pre a/\d a<c+1) Q):p8 P cx f A pre Q:=by
 have e:∀c,p8 P cx f A (λa=>pre a/\d a<c) Q:=by
  intro c;induction c with
  |zero=>exact⟨λa b=>absurd b.2 (Nat.not_lt_zero _),λa b=>absurd b.2 (Nat.not_lt_zero _)⟩
  |succ c g=>simp_all
 exact⟨λa b=>(e (d a+1)).1 a ⟨b,dE _⟩,λa b=>(e (d a+1)).2 a ⟨b,dE _⟩⟩
end
def GI(b:Prop)(c:T):Prop:=∃a,c= .bool a/\(a->b)
@[simp]def ac0 (b:Prop) (a:Bool):GI b (.bool a)=(a->b):=by unfold GI;apply propext;constructor;simp;simp
@[simp]def afJ (a:Bool):MR (.bool a)=True:=by simp[MR]
end
end
end Go.TI
namespace Go.Proofs.YtdpclhaknmicoaaGreatDoor
noncomputable section
open Go Go.TI Tryz
def iD(d:List (aj×iF)){b:iF}{g:aj}{c:Func}{e:Nat}{f:DL}(m:Ea prog cx g c e f)(h:b.α->Nat)(hl:∀a,om (b.A a))
 (l:∀a,b.pre a->∀i,oz i 0 (b.A a)->W (kN cx (r7 prog cx ⟨pt d,ht []⟩) (h a) e f (c.body.getD .skip) ⟨i,.nil⟩ hE) (AJ cx e c.results.toList λd j=>OV j d (b.R a)))
 (k:∀a,Nat.ble (b.A a).length c.ntmps=true:=by intro _;rfl):b.Ok prog cx g:=AO (tb:=⟨pt d,ht []⟩) ml kl m h hl (λa=>bp (k a)) l
def jX(d:List (aj×iF)){e:Type}{b:e->List T}{l:e->Prop}{g:e->T->Prop}{j:aj}{c:Func}{f:Nat}{i:DL}(s:Ea prog cx j c f i)(k:e->Nat)(p:∀a h,b a=b h->a=h)
 (r:∀a,l a->∀n,oz n 0 (b a)->W (kN cx (r7 prog cx ⟨pt d,ht []⟩) (k a) f i (c.body.getD .skip) ⟨n,.nil⟩ hE) (AJ cx f c.results.toList λd o=>∃m,g a m/\OV o d m))
 (hl:∀a,om (b a)=true:=by simp) (q:∀a,Nat.ble (b a).length c.ntmps=true:=by intro _;rfl):p8 prog cx j b l g:=yQ (tb:=⟨pt d,ht []⟩) ml kl s k p hl (λa=>bp (q a)) r
section
section
variable {S Cq:Type}(lt:Cq->Cq->Prop)
def lx:List Cq->List Cq->Prop
 |a::c,b::d=>lt a b\/a=b/\lx c d
 |_,_=>False
def IM(a b:List Cq):Prop:=a=b\/lx lt a b
variable {lt}
def lx.trans(T:∀a b d,lt a b->lt b d->lt a d):∀{e f g:List Cq},lx lt e f->lx lt f g->lx lt e g
 | [],_,_,c,_=>c.elim
 |_::_,[],_,c,_=>c.elim
 |_::_,_::_,[],_,c=>c.elim
 |a::e,b::f,d::g,c,k=>by
  rcases c with c|⟨rfl,c⟩<;>rcases k with k|⟨rfl,k⟩;exact .inl (T _ _ _ c k);exact .inl c;exact .inl k;exact .inr ⟨rfl,c.trans T k⟩
def IM.trans(T:∀a b c,lt a b->lt b c->lt a c){d e f:List Cq}(h:IM lt d e)(k:IM lt e f):IM lt d f:=by rcases h with rfl|h;exact k;rcases k with rfl|k;exact .inr h;exact .inr (h.trans T k)
def lx.app:∀{c d:List Cq},lx lt c d->∀x b,lx lt (c++x) (d++b)
 | [],_,a=>a.elim
 |_::_,[],a=>a.elim
 |_::_,_::_,a=>λx b=>a.elim .inl λe=> .inr ⟨e.1,e.2.app x b⟩
def lx.snoc(a:List Cq){b c:Cq}(d:lt b c):lx lt (a++[b]) (a++[c]):=by
 induction a with
 |nil=>exact .inl d
 |cons f a e=>exact .inr ⟨rfl,e⟩
def IM.app{b c:List Cq}(d:IM lt b c)(x:List Cq):IM lt (b++x) (c++x):=d.elim (λa=> .inl (a▸rfl)) λa=> .inr (a.app x x)
variable (chs:S->List Cq)(step:S->Cq->S)(hit:S->Bool)
def Fi:S->List Cq->Prop
 |_,[]=>True
 |s,a::b=>a∈chs s/\Fi (step s a) b
abbrev KB(b:S)(a:List Cq):S:=a.foldl step b
def Fi.app{chs:S->List Cq}{step:S->Cq->S}:∀{p:List Cq} {a:S} {b:List Cq},Fi chs step a (p++b)↔Fi chs step a p/\Fi chs step (KB step a p) b
 | [],a,b=>by simp[Fi]
 |c::p,a,b=>by simp only[aW,Fi,dF,Fi.app (p:=p),and_assoc]
structure Alk(R:S->S->Prop):Prop where
 c:∀{s t},R s t->chs s=chs t
 s:∀{s t c},R s t->c∈chs s->hit (step s c)=hit (step t c)/\R (step s c) (step t c)
def Alk.leg{chs:S->List Cq}{step:S->Cq->S}{hit:S->Bool}{h:S->S->Prop}(b:Alk chs step hit h):∀{p:List Cq} {s f:S},h s f->p≠ []->Fi chs step f p->hit (KB step f p)->Fi chs step s p/\hit (KB step s p)=true
 | [c],s,f,e,_,a,g=>by
  have d:=b.c e;have:=b.s e (d▸a.1);exact⟨⟨d▸a.1,trivial⟩,this.1.trans g⟩
 |c::l::p,s,f,e,_,a,g=>by
  have d:=b.c e;have⟨i,j⟩:=b.leg (b.s e (d▸a.1)).2 (List.cons_ne_nil l p) a.2 g;exact⟨⟨d▸a.1,i⟩,j⟩
def Ded(c:S->Prop):Prop:=∀{a b},c a->b∈chs a->hit (step a b)=false/\c (step a b)
def Ded.leg{chs:S->List Cq}{step:S->Cq->S}{hit:S->Bool}{e:S->Prop}(b:Ded chs step hit e):∀{p:List Cq} {s:S},e s->p≠ []->Fi chs step s p->hit (KB step s p)=false
 | [c],s,d,_,a=>(b d a.1).1
 |c::f::p,s,d,_,a=>Ded.leg (p:=f::p) (s:=step s c) @b (b d a.1).2 (List.cons_ne_nil f p) a.2
def A6(lv:List (S×List Cq)):List (S×List Cq):=lv.flatMap λa=>(chs a.1).map λb=>(step a.1 b,a.2++[b])
variable (lt)
structure HI(s0:S)(k:Nat)(lv:List (S×List Cq)):Prop where
 ln:∀x∈lv,x.2.length=k
 st:∀x∈lv,x.1=KB step s0 x.2/\Fi chs step s0 x.2
 pw:lv.Pairwise λx y=>lx lt x.2 y.2
 no:∀p,Fi chs step s0 p->p.length<=k->hit (KB step s0 p)=false
 cv:∀p,Fi chs step s0 p->k<p.length->hit (KB step s0 p)->∃x∈lv,IM lt x.2 (p.take k)/\Fi chs step x.1 (p.drop k)/\hit (KB step x.1 (p.drop k))
variable {lt}{chs step hit}{s0:S}{k:Nat}{lv:List (S×List Cq)}
def HI.start(h:hit s0=false):HI lt chs step hit s0 0 [(s0,[])]:=
 ⟨Y,by simp[Fi],Y,λa _ c=>by cases a with
   |nil=>exact h
   |cons=>simp at c,λa b _ h=>⟨_,dD,.inl rfl,b,h⟩⟩
def Lst(lt:Cq->Cq->Prop)(chs:S->List Cq)(step:S->Cq->S)(hit:S->Bool)(s0:S)(a:List Cq):Prop:=Fi chs step s0 a/\hit (KB step s0 a)/\∀b,Fi chs step s0 b->hit (KB step s0 b)->a.length<b.length\/a.length=b.length/\IM lt a b
def Non(chs:S->List Cq)(step:S->Cq->S)(hit:S->Bool)(s0:S):Prop:=∀a,Fi chs step s0 a->hit (KB step s0 a)=false
def Lst.aih(T:∀b d e,lt b d->lt d e->lt b e)(g:∀b,¬lt b b){a f:List Cq}(b:Lst lt chs step hit s0 a)(d:Lst lt chs step hit s0 f):a=f:=by
 have j:∀a:List Cq,¬lx lt a a:=λa=>by
  induction a with
  |nil=>exact id
  |cons e a i=>exact λh=>h.elim (g e) λl=>i l.2
 have c:=b.2.2 f d.1 d.2.1;have h2:=d.2.2 a b.1 b.2.1;rcases c with c|⟨_,c⟩
 omega;rcases h2 with h2|⟨_,h2⟩;omega;rcases c with c|c;exact c;rcases h2 with h2|h2;exact h2.symm;exact absurd (c.trans T h2) (j a)
theorem HI.none(b:HI lt chs step hit s0 k []):Non chs step hit s0:=λa c=>by
 rcases aR k a.length with q|q;cases d:hit (KB step s0 a)with
 |false=>rfl
 |true=>have⟨f,e,_⟩:=b.cv a c q d;simp at e
 exact b.no a c q
def HI.Ko(c:HI lt chs step hit s0 k lv){a:S×List Cq}(b:a∈A6 chs step lv):a.2.length=k+1/\a.1=KB step s0 a.2/\Fi chs step s0 a.2:=by have⟨f,d,b⟩:=List.mem_flatMap.1 b;obtain⟨i,g,rfl⟩:=List.mem_map.1 b;have⟨e,h⟩:=c.st f d;exact⟨by simp[c.ln f d],by simp[KB,<-e],Fi.app.2 ⟨h,e▸⟨g,trivial⟩⟩⟩
def Qm{chs:S->List Cq}{step:S->Cq->S}{lv:List (S×List Cq)}(g:∀h,(chs h).Pairwise lt)(d:lv.Pairwise λa c=>lx lt a.2 c.2):(A6 chs step lv).Pairwise λa c=>lx lt a.2 c.2:=by unfold A6;rw[List.pairwise_flatMap];refine⟨λa _=>List.pairwise_map.2 ((g a.1).imp λb=>lx.snoc _ b),d.imp λb i e j f=>?_⟩;obtain⟨l,_,rfl⟩:=List.mem_map.1 e;obtain⟨m,_,rfl⟩:=List.mem_map.1 f;exact b.app _ _
def HI.Kn(a:HI lt chs step hit s0 k lv)(b:∀c,(chs c).Pairwise lt):(A6 chs step lv).Pairwise λd e=>lx lt d.2 e.2:=Qm b a.pw
def HI.abt(h:HI lt chs step hit s0 k lv){a:List Cq}(j:Fi chs step s0 a)(d:k<a.length)(g:hit (KB step s0 a)):∃b∈A6 chs step lv,IM lt b.2 (a.take (k+1))/\Fi chs step b.1 (a.drop (k+1))/\hit (KB step b.1 (a.drop (k+1)))=true:=by have⟨b,i,f,c,e⟩:=h.cv a j d g;rw[aJ d]at c e;refine⟨(step b.1 a[k],b.2++[a[k]]),List.mem_flatMap.2 ⟨b,i,List.mem_map.2 ⟨_,c.1,rfl⟩⟩,?_,c.2,e⟩;rw[aM d];exact f.app _
def HI.found(T:∀a b h,lt a b->lt b h->lt a h)(m:∀t,(chs t).Pairwise lt)(c:HI lt chs step hit s0 k lv){l1 l2:List (S×List Cq)}{e:S×List Cq}(l:A6 chs step lv=l1++e::l2)(s:∀g∈l1,hit g.1=false)(n:hit e.1):Lst lt chs step hit s0 e.2:=by
 have r:e∈A6 chs step lv:=by rw[l];simp
 have⟨o,p,q⟩:=c.Ko r;refine⟨q,p▸n,λd i f=>?_⟩;rw[o];rcases aR k d.length with z|z;rcases aR (k+1) d.length with y|y;exact .inl y;have hl:d.length=k+1:=J;refine .inr ⟨hl.symm,?_⟩;have⟨g,hx,a,_,b⟩:=c.abt i z f;rw[cd y]at a;rw[dV y]at b;refine IM.trans T ?_ a;have j:=c.Kn m;rw[l]at hx j;rcases List.mem_append.1 hx with hx|hx
 exact absurd ((s g hx).symm.trans b) Y;rcases List.mem_cons.1 hx with rfl|hx;exact .inl rfl;exact .inr (List.rel_of_pairwise_cons (List.pairwise_append.1 j).2.1 hx);rw[c.no d i z]at f;simp at f
def HI.next(T:∀g b c,lt g b->lt b c->lt g c)(x:∀B,(chs B).Pairwise lt){n:S->S->Prop}{D:S->Prop}(t:Alk chs step hit n)(u:Ded chs step hit D)(e:HI lt chs step hit s0 k lv){l:List (S×List Cq)}(y:∀a∈A6 chs step lv,hit a.1=false)(m:l.Sublist (A6 chs step lv))(v:∀a∈A6 chs step lv,D a.1\/∃f∈l,IM lt f.2 a.2/\(f=a\/n f.1 a.1)):HI lt chs step hit s0 (k+1) l:=by
 refine⟨λa d=>(e.Ko (m.subset d)).1,λa d=>(e.Ko (m.subset d)).2,(e.Kn x).sublist m,λh i o=>?_,λh i o j=>?_⟩;rcases aR k h.length with z|z;cases j:hit (KB step s0 h)with
 |false=>rfl
 |true=>
  obtain⟨a,d,_,_,b⟩:=e.abt i z j;rw[dV o]at b;exact absurd ((y a d).symm.trans b) Y
 exact e.no h i z;obtain⟨a,d,g,b,c⟩:=e.abt i J j;have q:h.drop (k+1)≠ []:=λA=>by have:=bE List.length A;simp at this;omega
 rcases v a d with w|⟨f,p,s,rfl|r⟩;rw[u.leg w q b]at c;simp at c;exact⟨f,p,IM.trans T s g,b,c⟩;obtain⟨b,c⟩:=t.leg r q b c;exact⟨f,p,IM.trans T s g,b,c⟩
def uN(d:S->S->Bool)(c:S->Bool)(b:List (S×List Cq))(a:S×List Cq):List (S×List Cq):=if c a.1||b.any (λe=>d e.1 a.1)then b else b++[a]
def Ax{K:S->S->Bool}{D:S->Bool}:∀(c a:List (S×List Cq)),∃d,c.foldl (uN K D) a=a++d/\d.Sublist c/\∀b∈c,D b.1\/b∈d\/∃l1 l2,c=l1++b::l2/\∃l∈l1.foldl (uN K D) a,K l.1 b.1=true
 | [],a=>⟨[],Y,.slnil,Y⟩
 |e::c,a=>by
  have⟨d,m,n,o⟩:=Ax (K:=K) (D:=D) c (uN K D a e);by_cases f:(D e.1||a.any λl=>K l.1 e.1)=true;have j:uN K D a e=a:=by unfold uN;rw[au f]
  refine⟨d,by rw[dF,m,j],n.cons _,λb hx=>?_⟩;rcases List.mem_cons.1 hx with rfl|hx
  simp only[cm,List.any_eq_true]at f;exact f.imp id λf=> .inr ⟨[],c,rfl,f⟩;exact(o b hx).imp id λi=>i.imp id λ⟨l1,l2,g,h⟩=>⟨e::l1,l2,by rw[g];rfl,h⟩;have j:uN K D a e=a++[e]:=by unfold uN;rw[aq f]
  refine⟨e::d,by rw[dF,m,j];simp,n.cons_cons _,λb hx=>?_⟩;rcases List.mem_cons.1 hx with rfl|hx
  exact .inr (.inl dD);exact(o b hx).imp id λi=>i.imp (dw _) λ⟨l1,l2,g,h⟩=>⟨e::l1,l2,by rw[g];rfl,h⟩
def UJ{K:S->S->Bool}{D:S->Bool}{b:List (S×List Cq)}(s:b.Pairwise λa d=>lx lt a.2 d.2):(b.foldl (uN K D) []).Sublist b/\(∀a∈b.foldl (uN K D) [],D a.1=false)/\∀a∈b,D a.1\/∃d∈b.foldl (uN K D) [],IM lt d.2 a.2/\(d=a\/K d.1 a.1=true):=by
 obtain⟨q,f,n,o⟩:=Ax (K:=K) (D:=D) b [];rw[bJ]at f;have r:∀(b c:List (S×List Cq)) a,a∈c->a∈b.foldl (uN K D) c:=λb c a hx=>by
  obtain⟨q,e,_⟩:=Ax (K:=K) (D:=D) b c;rw[e];simp[hx]
 have j:∀(b c:List (S×List Cq)),(∀a∈c,D a.1=false)->∀a∈b.foldl (uN K D) c,D a.1=false:=λb=>by
  induction b with
  |nil=>exact λc e=>e
  |cons t b p=>
   refine λc e=>p _ ?_;unfold uN;split;exact e;rename_i i;intro a hx;rcases List.mem_append.1 hx with hx|hx
   exact e a hx;rw[List.mem_singleton.1 hx];simp only[cm,not_or,dz]at i;exact i.1
 refine⟨f▸n,j b [] Y,λa hx=>(o a hx).imp id λh=>?_⟩;rcases h with h|⟨l1,l2,rfl,d,g,k⟩
 exact⟨a,f▸h,.inl rfl,.inl rfl⟩;refine⟨d,by rw[dO];exact r _ _ _ g,.inr ?_,.inr k⟩;obtain⟨u,l,m,_⟩:=Ax (K:=K) (D:=D) l1 [];rw[l,bJ]at g;exact(List.pairwise_append.1 s).2.2 d (m.subset g) a dD
end
end
structure jm where
 name:List Nat
 index:Int
 size:Int
 BY:Bool
 mP:Int
 deriving DecidableEq,Inhabited
@[simp] def jm.cs (a:jm):List T:=[.str a.name,M a.index,M a.size,.bool a.BY,M a.mP]
def jm.t(a:jm):T:= .agg a.cs
@[simp]def jm.ag (a:jm):tJ a.t a.cs 5:=EF
@[simp]theorem jm.fold (a0 a1 a2 a3 a4):T.agg [.str a0,M a1,M a2,.bool a3,M a4]=jm.t ⟨a0,a1,a2,a3,a4⟩:=rfl
@[simp]theorem jm.eta (a:jm):⟨a.1,a.2,a.3,a.4,a.5⟩=a:=rfl
def jm.inj{a b:jm}(c:a.t=b.t):a=b:=by cases a;cases b;simp[jm.t,jm.cs,-jm.fold]at c;simp[c]
def jm.uv:= @qH _ _ λ(_ _:jm)=>jm.inj
structure jI where
 name:List Nat
 rW:Bool
 deriving DecidableEq,Inhabited
@[simp] def jI.cs (a:jI):List T:=[.str a.name,.bool a.rW]
def jI.t(a:jI):T:= .agg a.cs
@[simp]def jI.ag (a:jI):tJ a.t a.cs 2:=EF
@[simp]theorem jI.fold (a0 a1):T.agg [.str a0,.bool a1]=jI.t ⟨a0,a1⟩:=rfl
@[simp]theorem jI.eta (a:jI):⟨a.1,a.2⟩=a:=rfl
def jI.inj{a b:jI}(c:a.t=b.t):a=b:=by cases a;cases b;simp[jI.t,jI.cs,-jI.fold]at c;simp[c]
def jI.uv:= @qH _ _ λ(_ _:jI)=>jI.inj
structure ke where
 name:List Nat
 oG:Int
 deriving DecidableEq,Inhabited
@[simp] def ke.cs (a:ke):List T:=[.str a.name,M a.oG]
def ke.t(a:ke):T:= .agg a.cs
@[simp]def ke.ag (a:ke):tJ a.t a.cs 2:=EF
@[simp]theorem ke.fold (a0 a1):T.agg [.str a0,M a1]=ke.t ⟨a0,a1⟩:=rfl
@[simp]theorem ke.eta (a:ke):⟨a.1,a.2⟩=a:=rfl
def ke.inj{a b:ke}(c:a.t=b.t):a=b:=by cases a;cases b;simp[ke.t,ke.cs,-ke.fold]at c;simp[c]
def ke.uv:= @qH _ _ λ(_ _:ke)=>ke.inj
structure jJ where
 fa:Int
 stmt:Int
 DD:Int
 deriving DecidableEq,Inhabited
@[simp] def jJ.cs (a:jJ):List T:=[M a.fa,M a.stmt,M a.DD]
def jJ.t(a:jJ):T:= .agg a.cs
@[simp]def jJ.ag (a:jJ):tJ a.t a.cs 3:=EF
@[simp]theorem jJ.fold (a0 a1 a2):T.agg [M a0,M a1,M a2]=jJ.t ⟨a0,a1,a2⟩:=rfl
@[simp]theorem jJ.eta (a:jJ):⟨a.1,a.2,a.3⟩=a:=rfl
def jJ.inj{a b:jJ}(c:a.t=b.t):a=b:=by cases a;cases b;simp[jJ.t,jJ.cs,-jJ.fold]at c;simp[c]
def jJ.uv:= @qH _ _ λ(_ _:jJ)=>jJ.inj
structure fU where
 cells:List jm
 fT:List jI
 jl:List ke
 fR:List (List Nat)
 eY:List (List Nat)
 jM:List jJ
 deriving DecidableEq,Inhabited
@[simp] def fU.cs (a:fU):List T:=[sl (a.cells.map jm.t),sl (a.fT.map jI.t),sl (a.jl.map ke.t),sl (a.fR.map T.str),sl (a.eY.map T.str),sl (a.jM.map jJ.t)]
def fU.t(a:fU):T:= .agg a.cs
@[simp]def fU.ag (a:fU):tJ a.t a.cs 6:=EF
@[simp]theorem fU.fold (a0:List jm) (a1:List jI) (a2:List ke) (a3 a4:List (List Nat)) (a5:List jJ):T.agg [sl (a0.map jm.t),sl (a1.map jI.t),sl (a2.map ke.t),sl (a3.map T.str),sl (a4.map T.str),sl (a5.map jJ.t)]=fU.t ⟨a0,a1,a2,a3,a4,a5⟩:=rfl
@[simp]theorem fU.eta (a:fU):⟨a.1,a.2,a.3,a.4,a.5,a.6⟩=a:=rfl
def fU.inj{a b:fU}(c:a.t=b.t):a=b:=by cases a;cases b;simp[fU.t,fU.cs,jm.uv,ke.uv,jI.uv,jJ.uv,slS,-fU.fold]at c;simp[c]
structure fF where
 jF:Int
 gh:List Int
 deriving DecidableEq,Inhabited
@[simp] def fF.cs (a:fF):List T:=[M a.jF,sl (a.gh.map (T.int .i64))]
def fF.t(a:fF):T:= .agg a.cs
@[simp]def fF.ag (a:fF):tJ a.t a.cs 2:=EF
@[simp]theorem fF.fold (a0:Int) (a1:List Int):T.agg [M a0,sl (a1.map (T.int .i64))]=fF.t ⟨a0,a1⟩:=rfl
@[simp]theorem fF.eta (a:fF):⟨a.1,a.2⟩=a:=rfl
def fF.inj{a b:fF}(c:a.t=b.t):a=b:=by cases a;cases b;simp[fF.t,fF.cs,Zi,-fF.fold]at c;simp[c]
def fF.uv:= @qH _ _ λ(_ _:fF)=>fF.inj
structure fc where
 jq:Int
 cond:Int
 atomic:Bool
 deriving DecidableEq,Inhabited
@[simp] def fc.cs (a:fc):List T:=[M a.jq,M a.cond,.bool a.atomic]
def fc.t(a:fc):T:= .agg a.cs
@[simp]def fc.ag (a:fc):tJ a.t a.cs 3:=EF
@[simp]theorem fc.fold (a0 a1 a2):T.agg [M a0,M a1,.bool a2]=fc.t ⟨a0,a1,a2⟩:=rfl
@[simp]theorem fc.eta (a:fc):⟨a.1,a.2,a.3⟩=a:=rfl
def fc.inj{a b:fc}(c:a.t=b.t):a=b:=by cases a;cases b;simp[fc.t,fc.cs,-fc.fold]at c;simp[c]
def fc.uv:= @qH _ _ λ(_ _:fc)=>fc.inj
structure iu where
 fT:List fF
 tx:Int
 done:List Bool
 eY:List fc
 deriving DecidableEq,Inhabited
@[simp] def iu.cs (a:iu):List T:=[sl (a.fT.map fF.t),M a.tx,sl (a.done.map T.bool),sl (a.eY.map fc.t)]
def iu.t(a:iu):T:= .agg a.cs
@[simp]def iu.ag (a:iu):tJ a.t a.cs 4:=EF
@[simp]theorem iu.fold (a0:List fF) (a1:Int) (a2:List Bool) (a3:List fc):T.agg [sl (a0.map fF.t),M a1,sl (a2.map T.bool),sl (a3.map fc.t)]=iu.t ⟨a0,a1,a2,a3⟩:=rfl
@[simp]theorem iu.eta (a:iu):⟨a.1,a.2,a.3,a.4⟩=a:=rfl
def iu.inj{a b:iu}(c:a.t=b.t):a=b:=by cases a;cases b;simp[iu.t,iu.cs,fF.uv,fc.uv,slB,-iu.fold]at c;simp[c]
def iu.uv:= @qH _ _ λ(_ _:iu)=>iu.inj
structure ir where
 ig:iu
 cells:List Int
 fR:List Int
 count:List Int
 deriving DecidableEq,Inhabited
@[simp] def ir.cs (a:ir):List T:=[sl (a.ig.fT.map fF.t),M a.ig.tx,sl (a.ig.done.map T.bool),sl (a.ig.eY.map fc.t),sl (a.cells.map (T.int .i64)),sl (a.fR.map (T.int .i64)),sl (a.count.map (T.int .i64))]
def ir.t(a:ir):T:= .agg a.cs
@[simp]def ir.ag (a:ir):tJ a.t a.cs 7:=EF
@[simp]theorem ir.fold (a0:List fF) (a1:Int) (a2:List Bool) (a3:List fc) (a4 a5 a6:List Int):T.agg [sl (a0.map fF.t),M a1,sl (a2.map T.bool),sl (a3.map fc.t),sl (a4.map (T.int .i64)),sl (a5.map (T.int .i64)),sl (a6.map (T.int .i64))]=ir.t ⟨⟨a0,a1,a2,a3⟩,a4,a5,a6⟩:=rfl
@[simp]theorem ir.eta (a:ir):⟨a.1,a.2,a.3,a.4⟩=a:=rfl
def ir.inj{a b:ir}(c:a.t=b.t):a=b:=by rcases a with⟨⟨_,_,_,_⟩,_,_,_⟩;rcases b with⟨⟨_,_,_,_⟩,_,_,_⟩;simp[ir.t,ir.cs,fF.uv,fc.uv,slB,Zi,-ir.fold]at c;simp[c]
structure gd where
 fa:Int
 kind:Int
 obj:Int
 value:Int
 j7:Int
 m9:List Int
 uY:List Int
 deriving DecidableEq,Inhabited
@[simp] def gd.cs (a:gd):List T:=[M a.fa,M a.kind,M a.obj,M a.value,M a.j7,sl (a.m9.map (T.int .i64)),sl (a.uY.map (T.int .i64))]
def gd.t(a:gd):T:= .agg a.cs
@[simp]def gd.ag (a:gd):tJ a.t a.cs 7:=EF
@[simp]theorem gd.fold (a0 a1 a2 a3 a4:Int) (a5 a6:List Int):T.agg [M a0,M a1,M a2,M a3,M a4,sl (a5.map (T.int .i64)),sl (a6.map (T.int .i64))]=gd.t ⟨a0,a1,a2,a3,a4,a5,a6⟩:=rfl
@[simp]theorem gd.eta (a:gd):⟨a.1,a.2,a.3,a.4,a.5,a.6,a.7⟩=a:=rfl
def gd.inj{a b:gd}(c:a.t=b.t):a=b:=by cases a;cases b;simp[gd.t,gd.cs,Zi,-gd.fold]at c;simp[c]
def gd.uv:= @qH _ _ λ(_ _:gd)=>gd.inj
structure fh where
 gY:fU
 start:Int
 mP:ir
 eZ:List gd
 deriving DecidableEq,Inhabited
@[simp] def fh.cs (a:fh):List T:=[sl (a.gY.cells.map jm.t),sl (a.gY.fT.map jI.t),sl (a.gY.jl.map ke.t),sl (a.gY.fR.map T.str),sl (a.gY.eY.map T.str),sl (a.gY.jM.map jJ.t),M a.start,sl (a.mP.ig.fT.map fF.t),M a.mP.ig.tx,sl (a.mP.ig.done.map T.bool),sl (a.mP.ig.eY.map fc.t),sl (a.mP.cells.map (T.int .i64)),sl (a.mP.fR.map (T.int .i64)),sl (a.mP.count.map (T.int .i64)),sl (a.eZ.map gd.t)]
def fh.t(a:fh):T:= .agg a.cs
@[simp]def fh.ag (a:fh):tJ a.t a.cs 15:=EF
@[simp]theorem fh.fold (a0:List jm) (a1:List jI) (a2:List ke) (a3 a4:List (List Nat)) (a5:List jJ) (a6:Int) (f:List fF) (g:Int) (h:List Bool) (a:List fc) (b c d:List Int) (e:List gd):T.agg [sl (a0.map jm.t),sl (a1.map jI.t),sl (a2.map ke.t),sl (a3.map T.str),sl (a4.map T.str),sl (a5.map jJ.t),M a6,sl (f.map fF.t),M g,sl (h.map T.bool),sl (a.map fc.t),sl (b.map (T.int .i64)),sl (c.map (T.int .i64)),sl (d.map (T.int .i64)),sl (e.map gd.t)]=fh.t ⟨⟨a0,a1,a2,a3,a4,a5⟩,a6,⟨⟨f,g,h,a⟩,b,c,d⟩,e⟩:=rfl
@[simp]theorem fh.eta (a:fh):⟨a.1,a.2,a.3,a.4⟩=a:=rfl
def fh.inj{a b:fh}(c:a.t=b.t):a=b:=by rcases a with⟨⟨_,_,_,_,_,_⟩,_,⟨⟨_,_,_,_⟩,_,_,_⟩,_⟩;rcases b with⟨⟨_,_,_,_,_,_⟩,_,⟨⟨_,_,_,_⟩,_,_,_⟩,_⟩;simp[fh.t,fh.cs,jm.uv,ke.uv,gd.uv,jI.uv,fF.uv,jJ.uv,fc.uv,slB,Zi,slS,-fh.fold]at c;simp[c]
structure iv where
 kind:Int
 a:Int
 b:Int
 c:Int
 d:Int
 jA:List Int
 deriving DecidableEq,Inhabited
@[simp] def iv.cs (e:iv):List T:=[M e.kind,M e.a,M e.b,M e.c,M e.d,sl (e.jA.map (T.int .i64))]
def iv.t(a:iv):T:= .agg a.cs
@[simp]def iv.ag (a:iv):tJ a.t a.cs 6:=EF
@[simp]theorem iv.fold (a0 a1 a2 a3 a4:Int) (a5:List Int):T.agg [M a0,M a1,M a2,M a3,M a4,sl (a5.map (T.int .i64))]=iv.t ⟨a0,a1,a2,a3,a4,a5⟩:=rfl
@[simp]theorem iv.eta (a:iv):⟨a.1,a.2,a.3,a.4,a.5,a.6⟩=a:=rfl
def iv.inj{a b:iv}(c:a.t=b.t):a=b:=by cases a;cases b;simp[iv.t,iv.cs,Zi,-iv.fold]at c;simp[c]
structure lQ where
 gY:fU
 eZ:List gd
 deriving DecidableEq,Inhabited
@[simp] def lQ.cs (a:lQ):List T:=[sl (a.gY.cells.map jm.t),sl (a.gY.fT.map jI.t),sl (a.gY.jl.map ke.t),sl (a.gY.fR.map T.str),sl (a.gY.eY.map T.str),sl (a.gY.jM.map jJ.t),sl (a.eZ.map gd.t)]
def lQ.t(a:lQ):T:= .agg a.cs
@[simp]def lQ.ag (a:lQ):tJ a.t a.cs 7:=EF
@[simp]theorem lQ.fold (a0:List jm) (a1:List jI) (a2:List ke) (a3 a4:List (List Nat)) (a5:List jJ) (a6:List gd):T.agg [sl (a0.map jm.t),sl (a1.map jI.t),sl (a2.map ke.t),sl (a3.map T.str),sl (a4.map T.str),sl (a5.map jJ.t),sl (a6.map gd.t)]=lQ.t ⟨⟨a0,a1,a2,a3,a4,a5⟩,a6⟩:=rfl
@[simp]theorem lQ.eta (a:lQ):⟨a.1,a.2⟩=a:=rfl
def lQ.inj{a b:lQ}(c:a.t=b.t):a=b:=by rcases a with⟨⟨_,_,_,_,_,_⟩,_⟩;rcases b with⟨⟨_,_,_,_,_,_⟩,_⟩;simp[lQ.t,lQ.cs,jm.uv,ke.uv,gd.uv,jI.uv,jJ.uv,slS,-lQ.fold]at c;simp[c]
structure iT where
 w:fh
 M9:List iu
 deriving DecidableEq,Inhabited
@[simp] def iT.cs (a:iT):List T:=[sl (a.w.gY.cells.map jm.t),sl (a.w.gY.fT.map jI.t),sl (a.w.gY.jl.map ke.t),sl (a.w.gY.fR.map T.str),sl (a.w.gY.eY.map T.str),sl (a.w.gY.jM.map jJ.t),M a.w.start,sl (a.w.mP.ig.fT.map fF.t),M a.w.mP.ig.tx,sl (a.w.mP.ig.done.map T.bool),sl (a.w.mP.ig.eY.map fc.t),sl (a.w.mP.cells.map (T.int .i64)),sl (a.w.mP.fR.map (T.int .i64)),sl (a.w.mP.count.map (T.int .i64)),sl (a.w.eZ.map gd.t),sl (a.M9.map iu.t)]
def iT.t(a:iT):T:= .agg a.cs
@[simp]def iT.ag (a:iT):tJ a.t a.cs 16:=EF
@[simp]theorem iT.fold (a0:List jm) (a1:List jI) (a2:List ke) (a3 a4:List (List Nat)) (a5:List jJ) (a6:Int) (g:List fF) (h:Int) (i:List Bool) (a:List fc) (b c d:List Int) (e:List gd) (f:List iu):T.agg [sl (a0.map jm.t),sl (a1.map jI.t),sl (a2.map ke.t),sl (a3.map T.str),sl (a4.map T.str),sl (a5.map jJ.t),M a6,sl (g.map fF.t),M h,sl (i.map T.bool),sl (a.map fc.t),sl (b.map (T.int .i64)),sl (c.map (T.int .i64)),sl (d.map (T.int .i64)),sl (e.map gd.t),sl (f.map iu.t)]=iT.t ⟨⟨⟨a0,a1,a2,a3,a4,a5⟩,a6,⟨⟨g,h,i,a⟩,b,c,d⟩,e⟩,f⟩:=rfl
@[simp]theorem iT.eta (a:iT):⟨a.1,a.2⟩=a:=rfl
def iT.inj{a b:iT}(c:a.t=b.t):a=b:=by rcases a with⟨⟨⟨_,_,_,_,_,_⟩,_,⟨⟨_,_,_,_⟩,_,_,_⟩,_⟩,_⟩;rcases b with⟨⟨⟨_,_,_,_,_,_⟩,_,⟨⟨_,_,_,_⟩,_,_,_⟩,_⟩,_⟩;simp[iT.t,iT.cs,jm.uv,ke.uv,gd.uv,jI.uv,fF.uv,jJ.uv,iu.uv,fc.uv,slB,Zi,slS,-iT.fold]at c;simp[c]
structure iK where
 op:Int
 a:Int
 b:Int
 c:Int
 n:Int
 j7:Int
 deriving DecidableEq,Inhabited
@[simp] def iK.cs (d:iK):List T:=[M d.op,M d.a,M d.b,M d.c,M d.n,M d.j7]
def iK.t(a:iK):T:= .agg a.cs
@[simp]def iK.ag (a:iK):tJ a.t a.cs 6:=EF
@[simp]theorem iK.fold (a0 a1 a2 a3 a4 a5):T.agg [M a0,M a1,M a2,M a3,M a4,M a5]=iK.t ⟨a0,a1,a2,a3,a4,a5⟩:=rfl
@[simp]theorem iK.eta (a:iK):⟨a.1,a.2,a.3,a.4,a.5,a.6⟩=a:=rfl
def iK.inj{a b:iK}(c:a.t=b.t):a=b:=by cases a;cases b;simp[iK.t,iK.cs,-iK.fold]at c;simp[c]
def iK.uv:= @qH _ _ λ(_ _:iK)=>iK.inj
structure iR where
 jT:Int
 j3:List iK
 deriving DecidableEq,Inhabited
@[simp] def iR.cs (a:iR):List T:=[M a.jT,sl (a.j3.map iK.t)]
def iR.t(a:iR):T:= .agg a.cs
@[simp]def iR.ag (a:iR):tJ a.t a.cs 2:=EF
@[simp]theorem iR.fold (a0:Int) (a1:List iK):T.agg [M a0,sl (a1.map iK.t)]=iR.t ⟨a0,a1⟩:=rfl
@[simp]theorem iR.eta (a:iR):⟨a.1,a.2⟩=a:=rfl
def iR.inj{a b:iR}(c:a.t=b.t):a=b:=by cases a;cases b;simp[iR.t,iR.cs,iK.uv,-iR.fold]at c;simp[c]
def iR.uv:= @qH _ _ λ(_ _:iR)=>iR.inj
structure lj where
 gY:fU
 eY:List iR
 deriving DecidableEq,Inhabited
@[simp] def lj.cs (a:lj):List T:=[sl (a.gY.cells.map jm.t),sl (a.gY.fT.map jI.t),sl (a.gY.jl.map ke.t),sl (a.gY.fR.map T.str),sl (a.gY.eY.map T.str),sl (a.gY.jM.map jJ.t),sl (a.eY.map iR.t)]
def lj.t(a:lj):T:= .agg a.cs
@[simp]def lj.ag (a:lj):tJ a.t a.cs 7:=EF
@[simp]theorem lj.fold (a0:List jm) (a1:List jI) (a2:List ke) (a3 a4:List (List Nat)) (a5:List jJ) (a6:List iR):T.agg [sl (a0.map jm.t),sl (a1.map jI.t),sl (a2.map ke.t),sl (a3.map T.str),sl (a4.map T.str),sl (a5.map jJ.t),sl (a6.map iR.t)]=lj.t ⟨⟨a0,a1,a2,a3,a4,a5⟩,a6⟩:=rfl
@[simp]theorem lj.eta (a:lj):⟨a.1,a.2⟩=a:=rfl
def lj.inj{a b:lj}(c:a.t=b.t):a=b:=by rcases a with⟨⟨_,_,_,_,_,_⟩,_⟩;rcases b with⟨⟨_,_,_,_,_,_⟩,_⟩;simp[lj.t,lj.cs,jm.uv,ke.uv,jI.uv,jJ.uv,iR.uv,slS,-lj.fold]at c;simp[c]
structure gJ where
 pC:Int
 jT:List Int
 lU:List (List Int)
 eZ:Int
 deriving DecidableEq,Inhabited
@[simp] def gJ.cs (a:gJ):List T:=[M a.pC,sl (a.jT.map (T.int .i64)),sl (a.lU.map (λb=>sl (b.map (T.int .i64)))),M a.eZ]
def gJ.t(a:gJ):T:= .agg a.cs
@[simp]def gJ.ag (a:gJ):tJ a.t a.cs 4:=EF
@[simp]theorem gJ.fold (a0:Int) (a1:List Int) (a2:List (List Int)) (a3:Int):T.agg [M a0,sl (a1.map (T.int .i64)),sl (a2.map (λa=>sl (a.map (T.int .i64)))),M a3]=gJ.t ⟨a0,a1,a2,a3⟩:=rfl
@[simp]theorem gJ.eta (a:gJ):⟨a.1,a.2,a.3,a.4⟩=a:=rfl
def gJ.inj{a b:gJ}(c:a.t=b.t):a=b:=by rcases a with⟨_,_,_,_⟩;rcases b with⟨_,_,_,_⟩;simp only[gJ.t,gJ.cs,T.agg.injEq,bL]at c;obtain⟨d,e,f,g,_⟩:=c;obtain rfl:=GJ d;obtain rfl:=FD (λ_ _=>GJ) _ _ e;obtain rfl:=FD (FD (λ_ _=>GJ)) _ _ f;obtain rfl:=GJ g;rfl
def gJ.uv:= @qH _ _ λ(_ _:gJ)=>gJ.inj
structure jG where
 ig:iu
 cells:List Int
 fR:List Int
 eY:List gJ
 deriving DecidableEq,Inhabited
@[simp] def jG.cs (a:jG):List T:=[sl (a.ig.fT.map fF.t),M a.ig.tx,sl (a.ig.done.map T.bool),sl (a.ig.eY.map fc.t),sl (a.cells.map (T.int .i64)),sl (a.fR.map (T.int .i64)),sl (a.eY.map gJ.t)]
def jG.t(a:jG):T:= .agg a.cs
@[simp]def jG.ag (a:jG):tJ a.t a.cs 7:=EF
@[simp]theorem jG.fold (a0:List fF) (a1:Int) (a2:List Bool) (a3:List fc) (a4 a5:List Int) (a6:List gJ):T.agg [sl (a0.map fF.t),M a1,sl (a2.map T.bool),sl (a3.map fc.t),sl (a4.map (T.int .i64)),sl (a5.map (T.int .i64)),sl (a6.map gJ.t)]=jG.t ⟨⟨a0,a1,a2,a3⟩,a4,a5,a6⟩:=rfl
@[simp]theorem jG.eta (a:jG):⟨a.1,a.2,a.3,a.4⟩=a:=rfl
def jG.inj{a b:jG}(c:a.t=b.t):a=b:=by rcases a with⟨⟨_,_,_,_⟩,_,_,_⟩;rcases b with⟨⟨_,_,_,_⟩,_,_,_⟩;simp[jG.t,jG.cs,fF.uv,gJ.uv,fc.uv,slB,Zi,-jG.fold]at c;simp[c]
structure fG where
 fa:Int
 pI:Int
 deriving DecidableEq,Inhabited
@[simp] def fG.cs (a:fG):List T:=[M a.fa,M a.pI]
def fG.t(a:fG):T:= .agg a.cs
@[simp]def fG.ag (a:fG):tJ a.t a.cs 2:=EF
@[simp]theorem fG.fold (a0 a1):T.agg [M a0,M a1]=fG.t ⟨a0,a1⟩:=rfl
@[simp]theorem fG.eta (a:fG):⟨a.1,a.2⟩=a:=rfl
def fG.inj{a b:fG}(c:a.t=b.t):a=b:=by cases a;cases b;simp[fG.t,fG.cs,-fG.fold]at c;simp[c]
structure js where
 kind:Int
 DD:Int
 name:List Nat
 size:Int
 mP:Int
 on:List Nat
 deriving DecidableEq,Inhabited
@[simp] def js.cs (a:js):List T:=[M a.kind,M a.DD,.str a.name,M a.size,M a.mP,.str a.on]
def js.t(a:js):T:= .agg a.cs
@[simp]def js.ag (a:js):tJ a.t a.cs 6:=EF
@[simp]theorem js.fold (a0 a1 a2 a3 a4 a5):T.agg [M a0,M a1,.str a2,M a3,M a4,.str a5]=js.t ⟨a0,a1,a2,a3,a4,a5⟩:=rfl
@[simp]theorem js.eta (a:js):⟨a.1,a.2,a.3,a.4,a.5,a.6⟩=a:=rfl
def js.inj{a b:js}(c:a.t=b.t):a=b:=by cases a;cases b;simp[js.t,js.cs,-js.fold]at c;simp[c]
structure gU where
 value:Int
 known:Bool
 deriving DecidableEq,Inhabited
@[simp] def gU.cs (a:gU):List T:=[M a.value,.bool a.known]
def gU.t(a:gU):T:= .agg a.cs
@[simp]def gU.ag (a:gU):tJ a.t a.cs 2:=EF
@[simp]theorem gU.fold (a0 a1):T.agg [M a0,.bool a1]=gU.t ⟨a0,a1⟩:=rfl
@[simp]theorem gU.eta (a:gU):⟨a.1,a.2⟩=a:=rfl
def gU.inj{a b:gU}(c:a.t=b.t):a=b:=by cases a;cases b;simp[gU.t,gU.cs,-gU.fold]at c;simp[c]
def gU.uv:= @qH _ _ λ(_ _:gU)=>gU.inj
structure fi where
 ig:iu
 cells:List gU
 fR:List gU
 order:List Int
 fixed:List Bool
 pM:List Int
 deriving DecidableEq,Inhabited
@[simp] def fi.cs (a:fi):List T:=[sl (a.ig.fT.map fF.t),M a.ig.tx,sl (a.ig.done.map T.bool),sl (a.ig.eY.map fc.t),sl (a.cells.map gU.t),sl (a.fR.map gU.t),sl (a.order.map (T.int .i64)),sl (a.fixed.map T.bool),sl (a.pM.map (T.int .i64))]
def fi.t(a:fi):T:= .agg a.cs
@[simp]def fi.ag (a:fi):tJ a.t a.cs 9:=EF
@[simp]theorem fi.fold (a0:List fF) (a1:Int) (a2:List Bool) (a3:List fc) (a4 a5:List gU) (a6:List Int) (a:List Bool) (b:List Int):T.agg [sl (a0.map fF.t),M a1,sl (a2.map T.bool),sl (a3.map fc.t),sl (a4.map gU.t),sl (a5.map gU.t),sl (a6.map (T.int .i64)),sl (a.map T.bool),sl (b.map (T.int .i64))]=fi.t ⟨⟨a0,a1,a2,a3⟩,a4,a5,a6,a,b⟩:=rfl
@[simp]theorem fi.eta (a:fi):⟨a.1,a.2,a.3,a.4,a.5,a.6⟩=a:=rfl
def fi.inj{a b:fi}(c:a.t=b.t):a=b:=by rcases a with⟨⟨_,_,_,_⟩,_,_,_,_,_⟩;rcases b with⟨⟨_,_,_,_⟩,_,_,_,_,_⟩;simp[fi.t,fi.cs,gU.uv,fF.uv,fc.uv,slB,Zi,-fi.fold]at c;simp[c]
def jB(a:Int)(b:Nat):Bool:=decide (0<=a/\a<b)
def so{b:Type}(c:List b)(a:Int):aa b:=if 0<=a then c[a.toNat]? else none
def gG{a:Int}{b:Nat}:jB a b↔0<=a/\a.toNat<b:=by unfold jB;simp;omega
def sU{a:Int}{c:Nat}(b:jB a c=false):¬(0<=a/\a.toNat<c):=λd=>by rw[gG.2 d]at b;simp at b
def jt{e:Type}{l:List e}{i:Int}(c:jB i l.length):∃b,l[i.toNat]? =G b/\so l i=G b:=by have⟨d,a⟩:=gG.1 c;exact⟨l[i.toNat],by simp[a],by simp[so,d,a]⟩
def nQ{d:Type}{b:List d}{a:Int}(c:jB a b.length=false):so b a=none:=by have:=sU c;unfold so;split;simp;omega;rfl
def ou(a:fU)(b:iu):Bool:=(a.jl.all λc=>jB c.oG a.fT.length)&&decide (b.fT.length=a.fT.length)&&decide (b.done.length=a.fR.length)&&decide (b.eY.length=a.eY.length)
def ko(c:fU)(a b:Int):Bool:=
 if a=1\/a=2\/a=5\/a=12\/a=13\/a=14\/a=15 then decide (b=-1)
 else if a=3\/a=4 then jB b c.cells.length
 else if a=6\/a=7 then(match so c.fT b with|some d=> !d.rW|none=>false)
 else if a=8\/a=9\/a=10\/a=11 then(match so c.fT b with|some d=>d.rW|none=>false)
 else if a=16\/a=17\/a=18\/a=19 then jB b c.jl.length
 else if a=20\/a=21 then jB b c.eY.length
 else if a=22\/a=23 then jB b c.fR.length
 else false
def jb(a:Int):List fc->Nat->List Int
 | [],_=>[]
 |t::c,b=>if t.jq=3/\t.cond=a then(b:Int)::jb a c (b+1)else jb a c (b+1)
def po(b:iu)(a:Int):fF:=(so b.fT a).getD default
def qu(b:iu)(a:Int):fc:=(so b.eY a).getD default
def vV(c:fU)(b:iu)(a:Int):fF:=po b ((so c.jl a).getD default).oG
def Hc(b:iu)(a:Int):Bool:=(so b.done a).getD false
def BW(e:fU)(a:iu)(d b c:Int):Bool:=
 if b=1 then decide ((qu a d).jq=1)
 else if b=17 then decide ((qu a d).jq=4)&&decide ((qu a d).cond=c)&&decide ((vV e a c).jF=-1)
 else if¬(qu a d).jq=2 then false
 else if b=6 then decide ((po a c).jF=-1)
 else if b=10 then decide ((po a c).jF=-1)&&decide ((po a c).gh=[])
 else if b=8 then decide ((po a c).jF=-1)&& !decide (d∈(po a c).gh)
 else if b=7\/b=11 then decide ((po a c).jF=d)
 else if b=9 then decide (d∈(po a c).gh)
 else if b=12 then decide (a.tx=-1)
 else if b=13 then decide (a.tx=d)
 else if b=14 then !(qu a d).atomic
 else if b=15 then(qu a d).atomic
 else if b=16\/b=18\/b=19 then decide ((vV e a c).jF=d)
 else if b=20 then !decide (c=d)&&decide ((qu a c).jq=0)
 else if b=21 then !decide (c=d)&&decide ((qu a c).jq=5)
 else if b=22 then !Hc a c
 else if b=23 then Hc a c
 else true
def jK(a:fU)(d:iu)(e b c:Int):Bool:=ou a d&&jB e a.eY.length&&ko a b c&&BW a d e b c
def o8{c:fU}{b:iu}(a:ou c b):b.fT.length=c.fT.length/\b.done.length=c.fR.length/\b.eY.length=c.eY.length:=by unfold ou at a;simp at a;exact⟨a.1.1.2,a.1.2,a.2⟩
def vS{c:fU}{f:iu}(b:ou c f){e:Nat}{a:ke}(d:c.jl[e]? =G a):jB a.oG c.fT.length=true:=by unfold ou at b;simp at b;exact b.1.1.1 a (aB d)
def xv{d:fU}{a c:Int}(b:ko d a c):a=1\/a=2\/a=3\/a=4\/a=5\/a=12\/a=13\/a=14\/a=15\/(a=6\/a=7\/a=8\/a=9\/a=10\/a=11)\/(a=16\/a=17\/a=18\/a=19)\/(a=20\/a=21)\/(a=22\/a=23):=by by_cases e:1<=a/\a<=23;omega;exfalso;unfold ko at b;rw[aq J,aq J,aq J,aq J,aq J,aq J,aq J]at b;simp at b
def mW{d:fU}{a c:Int}(b:ko d a c)(e:a=6\/a=7\/a=8\/a=9\/a=10\/a=11):jB c d.fT.length=true:=by
 cases hl:jB c d.fT.length;unfold ko at b;rw[aq J,aq J]at b;rcases e with rfl|rfl|rfl|rfl|rfl|rfl<;>simp[nQ hl]at b
 rfl
def qO{d:fU}{a c:Int}(b:ko d a c)(e:a=16\/a=17\/a=18\/a=19):jB c d.jl.length=true:=by unfold ko at b;rwa[aq J,aq J,aq J,aq J,au e]at b
def Au{d:fU}{a c:Int}(b:ko d a c)(e:a=20\/a=21):jB c d.eY.length=true:=by unfold ko at b;rwa[aq J,aq J,aq J,aq J,aq J,au e]at b
def vh{d:fU}{a c:Int}(b:ko d a c)(e:a=22\/a=23):jB c d.fR.length=true:=by unfold ko at b;rwa[aq J,aq J,aq J,aq J,aq J,aq J,au e]at b
def iu.sm(a:iu):Prop:=a.fT.length<=1099511627776/\a.done.length<=1099511627776/\a.eY.length<=1099511627776/\∀b∈a.fT,b.gh.length<=1000000000000
def iu.qA(a:iu)(i:Int)(b:fc->fc):iu:={a with eY:=a.eY.modify i.toNat b}
def iu.sj(a:iu)(c:Int)(b:fF->fF):iu:={a with fT:=a.fT.modify c.toNat b}
def mh(a:Int)(b:fc):fc:={b with jq:=a}
def oF:List Int->Int->List Int
 | [],a=>[a]
 |x::b,a=>if x<a then x::oF b a else if x=a then x::b else a::x::b
def wh(a c:Int)(b:List fc):Int:=if c∈jb a b 0 then c else(jb a b 0).headD (-1)
def gW(g:fU)(a:iu)(f b c h:Int):iu×Int:=
 if b=1 then(a.qA f (mh 2),0)
 else if b=2 then(a.qA f (mh 5),0)
 else if b=6\/b=10 then(a.sj c λd=>{d with jF:=f},0)
 else if b=7\/b=11 then(a.sj c λd=>{d with jF:=-1},0)
 else if b=8 then(a.sj c λd=>{d with gh:=oF d.gh f},0)
 else if b=9 then(a.sj c λd=>{d with gh:=d.gh.filter λi=> !decide (i=f)},0)
 else if b=12 then({a with tx:=f},0)
 else if b=13 then({a with tx:=-1},0)
 else if b=14 then(a.qA f λe=>{e with atomic:=true},0)
 else if b=15 then(a.qA f λe=>{e with atomic:=false},0)
 else if b=16 then((a.sj ((so g.jl c).getD default).oG λd=>{d with jF:=-1}).qA f λe=>{e with jq:=3,cond:=c},0)
 else if b=17 then((a.sj ((so g.jl c).getD default).oG λd=>{d with jF:=f}).qA f λe=>{e with jq:=2,cond:=0},0)
 else if b=18 then(if jb c a.eY 0=[]then(a,-1)else(a.qA (wh c h a.eY) (mh 4),wh c h a.eY))
 else if b=19 then({a with eY:=a.eY.map λe=>if e.jq=3/\e.cond=c then mh 4 e else e},(jb c a.eY 0).length)
 else if b=20 then(a.qA c (mh 1),0)
 else if b=22 then({a with done:=a.done.set c.toNat true},0)
 else(a,0)
def MP(a:List Int):Prop:=a.Pairwise (· < ·)
def iu.BP(b:iu):Prop:=∀a∈b.fT,MP a.gh
def CF{a:List Int}{c b:Int}(h:b∈oF a c):b∈a\/b=c:=by
 induction a with
 |nil=>simp[oF]at h;exact .inr h
 |cons e a d=>
  unfold oF at h;split at h;rcases List.mem_cons.1 h with rfl|h;exact .inl Y;rcases d h with h|h;exact .inl (by simp[h]);exact .inr h;split at h;exact .inl h;rcases List.mem_cons.1 h with rfl|h;exact .inr rfl;exact .inl h
def GL{b:List Int}(a:MP b)(e:Int):MP (oF b e):=by
 induction b with
 |nil=>simp[oF,MP]
 |cons f b d=>
  unfold MP at*
  rw[dP]at a;unfold oF;split;rw[dP];refine⟨λc hx=>?_,d a.2⟩;rcases CF hx with hx|rfl
  exact a.1 c hx
  assumption
  split;rw[dP];exact a;rw[dP,dP];refine⟨λc hx=>?_,a⟩;rcases List.mem_cons.1 hx with rfl|hx
  omega;have:=a.1 c hx;omega
def LV(a:List Int)(b:Int):(oF a b).length<=a.length+1:=by
 induction a with
 |nil=>simp[oF]
 |cons d a c=>unfold oF;split<;>(try split)<;>simp<;>omega
def mem_modify{c:Type}{b:List c}{i:Nat}{g:c->c}{e:c}(h:e∈b.modify i g):e∈b\/∃f∈b,e=g f:=by have⟨j,a⟩:=List.mem_iff_getElem?.1 h;rw[List.getElem?_modify]at a;split at a;rcases d:b[j]? with _|f;rw[d]at a;simp at a;rw[d]at a;simp at a;exact .inr ⟨f,aB d,a.symm⟩;exact .inl (aB (iC a))
def XF{b:iu}(d:b.BP){h:Int}{c:fF->fF}(f:∀a∈b.fT,MP (c a).gh):(b.sj h c).BP:=by
 intro a hl;rcases mem_modify hl with e|⟨i,g,rfl⟩
 exact d a e;exact f i g
def rS{e:Type}(b:e->Prop){a:Prop} [Decidable a]{c d:e}(f:a->b c)(g:¬a->b d):b (if a then c else d):=by split;exact f (by assumption);exact g (by assumption)
def yu{P:iu×Int->Prop}{p:fU}{b:iu}{e m g q:Int}(p0:P (b,0))(p1:P (b,-1))(pt:∀h c d,P (b.qA h c,d))(f:∀h c,(∀a,(c a).gh=a.gh\/(c a).gh=oF a.gh e\/(c a).gh=a.gh.filter λi=> !decide (i=e))->P (b.sj h c,0)/\∀l k,P ((b.sj h c).qA l k,0))
 (j:∀d,P ({b with tx:=d},0)) (o:∀c d,P ({b with eY:=b.eY.map c},d)) (n:∀d,P ({b with done:=b.done.set d true},0)):P (gW p b e m g q):=by
 unfold gW;refine rS P (λ_=>pt _ _ _) λ_=>?_;refine rS P (λ_=>pt _ _ _) λ_=>?_;refine rS P (λ_=>(f g (λa=>{a with jF:=e}) λ_=> .inl rfl).1) λ_=>?_;refine rS P (λ_=>(f g (λa=>{a with jF:=-1}) λ_=> .inl rfl).1) λ_=>?_;refine rS P (λ_=>(f g (λa=>{a with gh:=oF a.gh e}) λ_=> .inr (.inl rfl)).1) λ_=>?_;refine rS P (λ_=>(f g (λa=>{a with gh:=a.gh.filter λi=> !decide (i=e)}) λ_=> .inr (.inr rfl)).1) λ_=>?_;refine rS P (λ_=>j _) λ_=>?_;refine rS P (λ_=>j _) λ_=>?_;refine rS P (λ_=>pt _ _ _) λ_=>?_;refine rS P (λ_=>pt _ _ _) λ_=>?_;refine rS P (λ_=>(f _ (λa=>{a with jF:=-1}) λ_=> .inl rfl).2 _ _) λ_=>?_;refine rS P (λ_=>(f _ (λa=>{a with jF:=e}) λ_=> .inl rfl).2 _ _) λ_=>?_;refine rS P (λ_=>rS P (λ_=>p1) λ_=>pt _ _ _) λ_=>?_;refine rS P (λ_=>o _ _) λ_=>?_;refine rS P (λ_=>pt _ _ _) λ_=>?_;exact rS P (λ_=>n _) λ_=>p0
def yt{i:iu}(b:i.BP)(m:fU)(g k l n:Int):(gW m i g k l n).1.BP:=by
 have j:∀(d:Int) (c:fF->fF),(∀a,(c a).gh=a.gh\/(c a).gh=oF a.gh g\/(c a).gh=a.gh.filter λh=> !decide (h=g))->(i.sj d c).BP:=λd c f=>XF b λa hl=>by
  rcases f a with e|e|e<;>rw[e];exact b a hl;exact GL (b a hl) g;exact(b a hl).filter _
 exact yu (P:=λh=>h.1.BP) b b (λ_ _ _=>b) (λd c f=>⟨j d c f,λ_ _=>j d c f⟩) (λ_=>b) (λ_ _=>b) (λ_=>b)
def BS(f:fU)(a:iu)(e b c g:Int):(gW f a e b c g).1.fT.length=a.fT.length/\(gW f a e b c g).1.done.length=a.done.length/\(gW f a e b c g).1.eY.length=a.eY.length:=
 yu (P:=λd=>d.1.fT.length=a.fT.length/\d.1.done.length=a.done.length/\d.1.eY.length=a.eY.length) ⟨rfl,rfl,rfl⟩ ⟨rfl,rfl,rfl⟩ (λ_ _ _=>by simp[iu.qA]) (λ_ _ _=>by simp[iu.qA,iu.sj]) (λ_=>⟨rfl,rfl,rfl⟩) (λ_ _=>by simp) (λ_=>by simp)
def RH{a:List Int}{b:Int}(d:∀c∈a,c<b):oF a b=a++[b]:=by
 induction a with
 |nil=>rfl
 |cons g a f=>unfold oF;rw[au (d g Y),f λc e=>d c (by simp[e])];rfl
def RI:∀(b a:List Int),MP (a++b)->b.foldl oF a=a++b:=by
 intro b;induction b with
 |nil=>intro a _;simp
 |cons c b h=>
  intro a e;have f:∀d∈a,d<c:=λd g=>(List.pairwise_append.1 e).2.2 d g c Y;rw[dF,RH f,h (a++[c]) (iC e)];simp
def QE{a:List Int}(c:MP a)(b:Int): [b].foldl oF (a.foldl oF [])=oF a b:=by rw[RI a [] (iC c)];rfl
def uG(b:fU)(a:ir):Bool:=ou b a.ig&&decide (a.cells.length=b.cells.length)&&decide (a.fR.length=b.fR.length)&&decide (a.count.length=b.eY.length)
def Bt(b:Int):aa Int->List Int->Bool
 |_,[]=>true
 |p,a::c=> !(decide (a<1))&& !(decide (b<=a))&&(match p with|some d=> !(decide (a<=d))|none=>true)&&Bt b (some a) c
def qG(b:ir)(a:gd):Bool:=
 if a.kind=3 then(match so b.cells a.obj with|some c=>decide (a.value=c)|none=>false)
 else if a.kind=23 then(match so b.fR a.obj with|some c=>decide (a.value=c)|none=>false)
 else if a.kind=5 then decide (a.value=0)||decide (a.value=1)
 else if a.kind=4\/a.kind=22 then true
 else if a.kind=18 then(if jb a.obj b.ig.eY 0=[]then decide (a.value=-1)else decide (0<=a.value)&&decide (a.value<b.ig.eY.length)&&decide (a.value∈jb a.obj b.ig.eY 0))
 else if a.kind=19 then decide (a.value=(jb a.obj b.ig.eY 0).length)
 else decide (a.value=0)
def Eh(d c:Int):List gd->Nat->Bool->Bool
 | [],_,a=>a
 |e::f,b,a=>if e.fa=d then Eh d c f (b+1) (a||(decide ((b:Int)=c)&&(decide (e.kind=3)||decide (e.kind=23))))else Eh d c f b a
def y7(a:List gd)(d:Int)(c:List Int):Bool:=c.all λb=>Eh d b a 0 false
def Aa(c:Int):∀(a:List fc) (b:Nat),(jb c a b).length<=a.length:=by
 intro a;induction a with
 |nil=>intro b;simp[jb]
 |cons e a d=>intro b;rw[jb];have:=d (b+1);split<;>simp<;>omega
def pz(a:gd):Bool:=decide (a.kind=3)||decide (a.kind=4)
def mE(a b:gd):Bool:=pz a&&pz b&&decide (a.obj=b.obj)&&(decide (a.kind=4)||decide (b.kind=4))
def ut(a:Int):Bool:=decide (a=6)||decide (a=8)||decide (a=10)||decide (a=17)||decide (a=21)
def mL(b:List gd)(a:Int):gd:=(so b a).getD default
def kV(a:List Int)(b:Int)(c:Nat):Int:=match a with
 | []=>-1
 |x::a=>if x=b then c else kV a b (c+1)
def oM{c:Int}:∀{a:List Int} {b:Nat},0<=kV a c b↔c∈a:=by
 intro a;induction a with
 |nil=>intro b;simp[kV]
 |cons e a d=>intro b;unfold kV;grind
structure GX where
 w:fU
 ev:List gd
 st:List iu
def GX.e(b:GX)(a:Int):gd:=mL b.ev a
def GX.s(b:GX)(a:Int):iu:=(so b.st a).getD default
def GX.Z1(d:GX)(a b:Int)(c:gd->Bool):Bool:=((d.ev.drop a.toNat).take (b-a).toNat).all c
def GX.r8(a:GX)(c b:Int):Bool:=
 if(a.e b).fa=(a.e c).fa then false
 else if(a.e b).kind=6\/(a.e b).kind=10 then decide ((po (a.s c) (a.e b).obj).jF=(a.e c).fa)||decide ((a.e c).fa∈(po (a.s c) (a.e b).obj).gh)
 else if(a.e b).kind=8 then decide ((po (a.s c) (a.e b).obj).jF=(a.e c).fa)
 else if(a.e b).kind=17 then decide ((vV a.w (a.s c) (a.e b).obj).jF=(a.e c).fa)
 else if(a.e b).kind=21 then decide ((a.e b).obj=(a.e c).fa)
 else false
def GX.zU(b:GX)(a c:Int):Bool:=ut (b.e a).kind&&b.r8 a c
def GX.R0{b:GX}{j a:Int}(c:b.r8 j a):ut (b.e a).kind=true:=by unfold GX.r8 at c;unfold ut;by_cases h:(b.e a).kind=6;simp[h];by_cases d:(b.e a).kind=10;simp[d];by_cases i:(b.e a).kind=8;simp[i];by_cases f:(b.e a).kind=17;simp[f];by_cases g:(b.e a).kind=21;simp[g];simp[h,d,i,f,g]at c
def GX.MU(c:GX)(d:Int->Int->Bool)(a:List Int):Bool:=
 decide (2<=a.length)&&decide (a.length<=4)&&(a.all λb=>jB b c.ev.length)&&(List.range a.length).all λb=>
  !decide (a.getD b 0<a.getD 0 0)&&d (a.getD ((b+1)% a.length) 0) (a.getD b 0)&&(List.range b).all λf=> !decide ((c.e (a.getD b 0)).fa=(c.e (a.getD f 0)).fa)
def GX.abO(e:GX)(d:List Int):e.MU e.zU d=e.MU e.r8 d:=by unfold GX.MU;by_cases hl:2<=d.length;rotate_left;simp[hl];congr 1;rw[bD,cw,cw];constructor;intro a c f;have:=a c f;simp[aC,GX.zU]at this|-;exact⟨⟨this.1.1,this.1.2.2⟩,this.2⟩;intro a c f;have b:=a c f;have g:=a ((c+1)% d.length) (by rw[List.mem_range];exact Nat.mod_lt _ J);simp[aC,GX.zU]at b g|-;exact⟨⟨b.1.1,GX.R0 g.1.2,b.1.2⟩,b.2⟩
def GX.dead(g:GX)(f:Int->Int->Bool)(e:iv):Bool:=decide (e.a=0)&&decide (e.b=0)&&decide (e.c=0)&&decide (e.d=0)&&g.MU f e.jA
def GX.WN(a:GX)(b c:Int):Bool:=decide (b<c)&& !decide ((a.e b).fa=(a.e c).fa)&&mE (a.e b) (a.e c)&& !((so a.w.cells (a.e b).obj).getD default).BY
def GX.Wl(a:GX)(b c:Int):Bool:=
 decide (c<b)&&(decide ((a.e b).kind=18)||decide ((a.e b).kind=19))&&decide ((a.e c).kind=16)&&decide ((a.e b).obj=(a.e c).obj)&& !decide ((a.e b).fa=(a.e c).fa)&&
  a.Z1 (c+1) b (λd=> !decide (d.fa=(a.e c).fa))&&decide ((qu (a.s b) (a.e c).fa).jq=3)&&(decide ((a.e b).kind=19)||decide ((a.e b).value=(a.e c).fa))
def GX.CO(b:Int)(a:gd):Bool:= !(decide (a.fa=b)&&decide (a.kind=15))
def GX.blo(b:GX)(a c:Int):Bool:=
 decide (a<c)&&decide ((b.e c).fa=(b.e a).fa)&&(qu (b.s a) (b.e a).fa).atomic&&b.Z1 (a+1) c (GX.CO (b.e a).fa)
def GX.brk(a:GX)(d f b c:Int):Bool:=
 decide (b<=c)&&decide ((a.e b).fa=(a.e c).fa)&& !decide ((a.e b).fa=(a.e d).fa)&&mE (a.e d) (a.e b)&&mE (a.e c) (a.e f)
def GX.OB(a:GX)(b c d f:Int):Bool:=
 decide (b<c)&&decide (d<=f)&&decide ((a.e b).fa=(a.e c).fa)&&decide ((a.e d).fa=(a.e f).fa)&& !decide ((a.e b).fa=(a.e d).fa)&&mE (a.e b) (a.e d)&&mE (a.e f) (a.e c)&&
  a.Z1 b c (GX.CO (a.e b).fa)&&(qu (a.s b) (a.e b).fa).atomic
def GX.BV(b:GX)(a:Int):Bool:=jB a b.ev.length
def GX.vR(f:GX)(e:iv):Bool:=
 if e.kind=2 then f.dead f.r8 e
 else if(f.BV e.a&&f.BV e.b&&f.BV e.c&&f.BV e.d)=true then
  (
   if e.kind=1 then decide (e.c=0)&&decide (e.d=0)&&decide (e.jA=[])&&f.WN e.a e.b
   else if e.kind=3 then decide (e.c=0)&&decide (e.d=0)&&decide (e.jA=[])&&f.Wl e.a e.b
   else if e.kind=4 then decide (e.jA=[])&&f.OB e.a e.b e.c e.d
   else false)
 else false
def GX.vG(f:GX)(e:iv):Bool:=
 if e.kind=1 then decide (e.c=0)&&decide (e.d=0)&&decide (e.jA=[])&&(f.BV e.a&&f.BV e.b)&&f.WN e.a e.b
 else if e.kind=2 then f.dead f.zU e
 else if e.kind=3 then decide (e.c=0)&&decide (e.d=0)&&decide (e.jA=[])&&(f.BV e.a&&f.BV e.b)&&f.Wl e.a e.b
 else if e.kind=4 then decide (e.jA=[])&&(f.BV e.a&&f.BV e.b&&f.BV e.c&&f.BV e.d)&&f.blo e.a e.b&&f.brk e.a e.b e.c e.d
 else false
def GX.in0{a:GX}{b:Int}(c:a.BV b):a.BV 0=true:=by
 unfold GX.BV at*
 rw[gG]at*
 omega
def GX.aci{b:GX}{a c g r:Int}(u:b.BV a):(b.blo a c&&b.brk a c g r)=b.OB a c g r:=by
 have w:mE (b.e a) (b.e g)->a<c->b.Z1 a c (GX.CO (b.e a).fa)=b.Z1 (a+1) c (GX.CO (b.e a).fa):=by
  intro d q;have⟨t,f⟩:=gG.1 u;unfold GX.Z1;have s:b.ev.drop a.toNat=b.e a::b.ev.drop (a+1).toNat:=by
   rw[show(a+1).toNat=a.toNat+1 by omega,aJ f];congr 1;unfold GX.e mL so;rw[au t];simp[f]
  rw[s,show(c-a).toNat=(c-(a+1)).toNat+1 by omega,dH,cA];have v:GX.CO (b.e a).fa (b.e a):=by
   unfold GX.CO;unfold mE pz at d;simp[aC,cm,aP]at d;rcases d.1.1.1 with h|h<;>simp[h]
  rw[v,aZ]
 unfold GX.blo GX.brk GX.OB;by_cases d:mE (b.e a) (b.e g)=true;by_cases q:a<c;rw[w d q];rw[bD];simp[aC,aP,bg];constructor;rintro⟨⟨⟨⟨f,i⟩,j⟩,k⟩,⟨⟨⟨l,m⟩,n⟩,o⟩,p⟩;exact⟨⟨⟨⟨⟨⟨⟨⟨f,l⟩,i.symm⟩,m⟩,λh=>n h.symm⟩,o⟩,p⟩,k⟩,j⟩;rintro⟨⟨⟨⟨⟨⟨⟨⟨f,l⟩,i⟩,m⟩,n⟩,o⟩,p⟩,k⟩,j⟩;exact⟨⟨⟨⟨f,i.symm⟩,j⟩,k⟩,⟨⟨⟨l,m⟩,λh=>n h.symm⟩,o⟩,p⟩;simp[q];rw[dz]at d;simp[d]
def GX.aig(f:GX)(e:iv):f.vG e=f.vR e:=by
 unfold GX.vG GX.vR;by_cases g:e.kind=1
 .rw[au g,aq J,au g];by_cases j:e.c=0;rotate_left;simp[j];by_cases k:e.d=0;rotate_left;simp[k];rw[j,k];cases i:f.BV e.a;simp;rw[GX.in0 i];cases f.BV e.b<;>simp
 rw[aq g];by_cases l:e.kind=2;rw[au l,au l];unfold GX.dead;rw[GX.abO];rw[aq l,aq l];by_cases h:e.kind=3
 .rw[au h,aq g,au h];by_cases j:e.c=0;rotate_left;simp[j];by_cases k:e.d=0;rotate_left;simp[k];rw[j,k];cases i:f.BV e.a;simp;rw[GX.in0 i];cases f.BV e.b<;>simp
 rw[aq h];by_cases m:e.kind=4;rw[au m,aq g,aq h,au m];cases i:f.BV e.a;simp;rw[<-GX.aci i];cases (f.BV e.b)<;>cases f.BV e.c<;>cases f.BV e.d<;>simp[Bool.and_assoc];rw[aq m,aq g,aq h,aq m];simp
def gC(a:List Int):iv:=⟨2,0,0,0,0,a⟩
def kM(a b:Nat):List Nat:=List.range' a (b-a)
def Ol(d:Nat)(b:List Int->Bool)(go:List Int->Int->Bool):Nat->List Int->List (List Int)
 |0,a=>if b a=true then [a]else []
 |k+1,a=>(if b a=true then [a]else [])++(kM ((a.getD 0 0).toNat+1) d).flatMap λ(c:Nat)=>if go a c=true then Ol d b go k (a++[(c:Int)])else []
def XZ{k:Nat}{e:List Int->Bool}{go:List Int->Int->Bool}:∀(b:Nat) (c a:List Int),a∈Ol k e go b c->e a/\∃d,a=c++d:=by
 intro b;induction b with
 |zero=>
  intro c a h;unfold Ol at h;split at h;simp at h;subst h;exact⟨by assumption,[],Y⟩;simp at h
 |succ b i=>
  intro c a h;unfold Ol at h;rw[cz]at h;rcases h with h|h
  split at h;simp at h;subst h;exact⟨by assumption,[],Y⟩;simp at h;rw[cT]at h;obtain⟨j,_,h⟩:=h;split at h;have⟨f,d,g⟩:=i _ _ h;exact⟨f,(j:Int)::d,by rw[g];simp⟩;simp at h
def yC(a:List Int):Int:=a.getD (a.length-1) 0
def GX.Hf(b:GX)(d:Nat):List (List Int):=Ol b.ev.length (λa=>b.vR (gC a)) (λa c=> !decide (c∈a)&&b.r8 c (yC a)) 3 [(d:Int)]
def GX.n(a:GX):Nat:=a.ev.length
def mr(b:iv->Bool)(a:iv):List iv:=if b a=true then [a]else []
def gR(a b:Nat):iv:=⟨1,a,b,0,0,[]⟩
def gL(a b:Nat):iv:=⟨3,a,b,0,0,[]⟩
def gA(a b c d:Nat):iv:=⟨4,a,b,c,d,[]⟩
def GX.pW(a:GX):List iv:=
 ((List.range a.n).flatMap λ(b:Nat)=>(List.range a.n).flatMap λ(c:Nat)=>mr a.vR (gR b c))++
 ((List.range a.n).flatMap λ(b:Nat)=>(a.Hf b).map gC)++
 ((List.range a.n).flatMap λ(b:Nat)=>(List.range a.n).flatMap λ(c:Nat)=>mr a.vR (gL b c))++
 ((
  List.range a.n).flatMap λ(b:Nat)=>(kM (b+1) a.n).flatMap λ(c:Nat)=>
  if(a.e b).fa=(a.e c).fa/\pz (a.e b)/\pz (a.e c)=true then(List.range a.n).flatMap λ(d:Nat)=>(kM d a.n).flatMap λ(f:Nat)=>mr a.vR (gA b c d f)else [])
section
def nT(a:gd):Int:=if a.kind=18 then a.value else-1
def wt(b:fU)(a:gd):Bool:=if a.kind=1\/a.kind=2 then decide (a.j7=-1)else(match so b.jM a.j7 with|some c=>decide (c.fa=a.fa)|none=>false)
def sizeOf(b:fU)(a:Int):Int:=((so b.cells a).getD default).size
def PV(b:fU)(a:gd):Bool:=decide (a.m9=[])||decide (a.kind=5)||(pz a&& !decide (sizeOf b a.obj=0))
def PM(a:gd):Bool:=decide (a.uY=[])||decide (a.kind=4)||decide (a.kind=22)
def uD(c:fU)(b:ir)(a:gd):Bool:=
 uG c b&&jB a.fa c.eY.length&&(decide (1<=a.kind)&&decide (a.kind<=23))&&jK c b.ig a.fa a.kind a.obj&&wt c a&&PV c a&&PM a&&
  Bt (b.count.getD a.fa.toNat 0) none a.m9&&Bt (b.count.getD a.fa.toNat 0) none a.uY&&qG b a
def oN(c:fU)(b:ir)(a:gd):ir:=
 ⟨(gW c b.ig a.fa a.kind a.obj (nT a)).1,if a.kind=4 then b.cells.set a.obj.toNat a.value else b.cells,if a.kind=22 then b.fR.set a.obj.toNat a.value else b.fR,b.count.modify a.fa.toNat (· +1)⟩
def xU:ir:=⟨⟨[],0,[],[]⟩,[],[],[]⟩
def lP(c:fU)(b:ir)(a:gd):ir×Bool:=if uD c b a=true then(oN c b a,true)else(xU,false)
section
variable {S E:Type}
def vt(ok:S->E->Bool)(nx:S->E->S):S->List E->Bool
 |_,[]=>true
 |s,a::b=>ok s a&&vt ok nx (nx s a) b
def Be(nx:S->E->S):S->List E->List S
 |_,[]=>[]
 |s,a::b=>s::Be nx (nx s a) b
def AM(go:S->E->S):S->List E->S
 |s,[]=>s
 |s,a::b=>AM go (go s a) b
variable {ok:S->E->Bool}{nx go:S->E->S}
def Nd:∀(a:List E) (b:S),(Be nx b a).length=a.length:=by
 intro a;induction a with
 |nil=>intro b;rfl
 |cons d a c=>intro b;simp[Be,c]
def QS(f:∀a b,ok a b->go a b=nx a b):∀(c d:List E) (a:S),vt ok nx a (c++d)=(vt ok nx a c&&vt ok nx (AM go a c) d):=by
 intro c;induction c with
 |nil=>intro d a;simp[vt,AM]
 |cons b c g=>
  intro d a;simp[aW,vt,AM];cases e:ok a b;simp;rw[g,f a b e,aZ,aZ]
def VS:∀(a b:List E) (c:S),AM go c (a++b)=AM go (AM go c a) b:=by
 intro a;induction a with
 |nil=>intro b c;rfl
 |cons e a d=>intro b c;simp[aW,AM,d]
def Nf(g:∀a d,ok a d->go a d=nx a d):∀(c:List E) (a:S) (b:Nat),vt ok nx a c->b<c.length->(Be nx a c)[b]? =G (AM go a (c.take b)):=by
 intro c;induction c with
 |nil=>intro a b _ f;simp at f
 |cons d c h=>
  intro a b e f;simp[vt,aC]at e;rcases b with _|b
  simp[Be,AM];simp[Be,dM,dH,AM];rw[g a d e.1];exact h _ b e.2 (iC f)
def SP(g:∀b a,ok b a->go b a=nx b a):∀(d:List E) (b:S) (c:Nat) (a:E),vt ok nx b d->d[c]? =G a->ok (AM go b (d.take c)) a=true:=by
 intro d;induction d with
 |nil=>intro b c a _ e;simp at e
 |cons i d h=>
  intro b c a f e;simp[vt,aC]at f;rcases c with _|c
  simp at e;subst e;simpa[AM]using f.1;simp[dH,AM];rw[g b i f.1];exact h _ c a f.2 (iC e)
def VR{I:S->Prop}(e:∀a c,I a->I (go a c)):∀(b:List E) (a:S),I a->I (AM go a b):=by
 intro b;induction b with
 |nil=>intro a d;exact d
 |cons c b f=>intro a d;exact f _ (e a c d)
end
def runs(a:fU):ir->List gd->Bool:=vt (uD a) (oN a)
def SI(a:fU):ir->List gd->List ir:=Be (oN a)
def yw(w:fU):ir->List gd->ir:=AM λb a=>(lP w b a).1
def u9{c:fU}(b:ir)(a:gd)(d:uD c b a):(lP c b a).1=oN c b a:=by unfold lP;rw[au d]
def QO(c:fU)(a:List gd)(b:ir):(SI c b a).length=a.length:=Nd a b
def KP(b:fU)(c d:List gd)(a:ir):runs b a (c++d)=(runs b a c&&runs b (yw b a c) d):=QS (go:=λa e=>(lP b a e).1) u9 c d a
def Ag{e:fU}{a:List gd}{d:ir}(b:runs e d a)(c:Nat):runs e d (a.take c)=true:=by rw[<-cB c a,KP,aC]at b;exact b.1
def SO{c:fU}{a:List gd}{f:ir}(d:runs c f a)(b e:Nat):runs c (yw c f (a.take b)) ((a.drop b).take e)=true:=by rw[<-cB b a,KP,aC]at d;exact Ag d.2 e
def QP{d:fU}(b:List gd)(a:ir)(c:Nat)(f:runs d a b)(g:c<b.length):(SI d a b)[c]? =G (yw d a (b.take c)):=Nf (go:=λa e=>(lP d a e).1) u9 b a c f g
def WJ{d:fU}(c:List gd)(b:ir)(e:Nat)(a:gd)(f:runs d b c)(g:c[e]? =G a):uD d (yw d b (c.take e)) a=true:=SP (go:=λb a=>(lP d b a).1) u9 c b e a f g
def sS{c:fU}{d:ir}{a:gd}(b:uD c d a):uG c d/\jB a.fa c.eY.length/\jK c d.ig a.fa a.kind a.obj=true:=by unfold uD at b;simp[aC]at b;exact⟨b.1.1.1.1.1.1.1.1.1,b.1.1.1.1.1.1.1.1.2,b.1.1.1.1.1.1.2⟩
structure A8(w:fh):Prop where
 len:w.eZ.length<=16
 qA:w.gY.eY.length<=4
 run:runs w.gY w.mP w.eZ
 BP:w.mP.ig.BP
def fh.gx(c:fh):GX:=⟨c.gY,c.eZ,(SI c.gY c.mP c.eZ).map ir.ig⟩
def A8.ok{a:fh}(b:A8 a){i:Nat}{e:gd}(c:a.eZ[i]? =G e):uD a.gY (yw a.gY a.mP (a.eZ.take i)) e=true:=WJ _ _ _ _ b.run c
def A8.st{a:fh}(c:A8 a){b:Nat}(d:b<a.eZ.length):a.gx.st[b]? =G (yw a.gY a.mP (a.eZ.take b)).ig:=by unfold fh.gx;rw[bw,QP _ _ _ c.run d];rfl
def A8.e{a:fh}(d:A8 a){i:Int}(g:jB i a.eZ.length):∃e,a.eZ[i.toNat]? =G e/\a.gx.e i=e/\jB e.fa a.gY.eY.length/\ko a.gY e.kind e.obj=true:=by have⟨f,b⟩:=gG.1 g;refine⟨a.eZ[i.toNat],by simp[b],?_,?_⟩;unfold GX.e mL so fh.gx;rw[au f];simp[b];have:=d.ok (i:=i.toNat) (e:=a.eZ[i.toNat]) (by simp[b]);have⟨_,h,c⟩:=sS this;refine⟨h,?_⟩;unfold jK at c;simp[aC]at c;exact c.1.2
def A8.s{a:fh}(c:A8 a){i:Int}(g:jB i a.eZ.length):a.gx.s i=(yw a.gY a.mP (a.eZ.take i.toNat)).ig/\ou a.gY (a.gx.s i)=true:=by
 have⟨f,d⟩:=gG.1 g;have b:a.gx.s i=(yw a.gY a.mP (a.eZ.take i.toNat)).ig:=by
  unfold GX.s so;rw[au f,(c.st d)];rfl
 refine⟨b,?_⟩;rw[b];have:=(sS (c.ok (i:=i.toNat) (e:=a.eZ[i.toNat]) (by simp[d]))).1;unfold uG at this;simp[aC]at this;exact this.1.1.1
def M8{b:fU}{a:ir}{c:gd}(d:a.ig.BP):(lP b a c).1.ig.BP:=by unfold lP;split;exact yt d b _ _ _ _;intro e hl;simp[xU]at hl
def Yy{d:fU}(c:List gd)(a:ir)(b:a.ig.BP):(yw d a c).ig.BP:=VR (I:=λa=>a.ig.BP) (λ_ _ b=>M8 b) c a b
def mI(a:fU):iu:=⟨a.fT.map λ_=>⟨-1,[]⟩,-1,a.fR.map λ_=>false,(List.range a.eY.length).map λb=>⟨if b=0 then 1 else 0,0,false⟩⟩
def kP(a:fU):ir:=⟨mI a,a.cells.map jm.mP,a.fR.map λ_=>0,a.eY.map λ_=>0⟩
def yV(a:fU):(kP a).ig.BP:=by intro b hl;unfold kP mI at hl;simp[dq]at hl;obtain⟨_,_,rfl⟩:=hl;exact List.Pairwise.nil
def yz(b:fU)(c:List gd)(d a:Nat):fh:=⟨b,a,yw b (kP b) (c.take a),(c.drop a).take d⟩
def Sq{a:fU}{d:List gd}(e:runs a (kP a) d)(ht:a.eY.length<=4){b:Nat}(f:b<=16)(c:Nat):A8 (yz a d b c):=
 ⟨by simp[yz];omega,ht,SO e c b,Yy _ _ (yV a)⟩
end
def rR(c:Int)(b:List Int):List gd->Nat->Int
 | [],_=>-1
 |e::d,a=>if e.fa=c/\¬(a:Int)∈b then a else rR c b d (a+1)
def sh(c:Int):List gd->Nat->Int->Int
 | [],_,_=>-1
 |e::d,a,b=>if e.fa=c then(if b=0 then(a:Int)else sh c d (a+1) (IntKind.i64.wrap (b-1)))else sh c d (a+1) b
def jn(c:fh)(a:fi)(b:Int):Int:=rR b a.order c.eZ 0
def xM(a:List Bool)(b:Int):Bool:=(so a b).getD false
def yK(d:fh)(b:List Bool)(c first a:Int):Bool:=decide (a<first)||xM b (sh c d.eZ 0 (IntKind.i64.wrap (a-first)))
def mD(b:fh)(c:fi)(a:Int)(l:List Int):Bool:=match so b.mP.count a with
 |some first=>l.all (yK b c.fixed a first)
 |none=>decide (l=[])
def iO(a:fh)(b:fi)(c:Int):Bool:=
 if jn a b c<0 then false
 else jK a.gY b.ig c (mL a.eZ (jn a b c)).kind (mL a.eZ (jn a b c)).obj&&mD a b c (mL a.eZ (jn a b c)).m9
def cont(a:Bool)(b:Int):gU:=if a=true then⟨b,true⟩else⟨0,false⟩
def fixC(a:List gU)(b c:Int):Bool:=decide (so a b=G ⟨c,true⟩)
def So:fi:=⟨⟨[],0,[],[]⟩,[],[],[],[],[]⟩
def oZ(e:fh)(b:fi)(c:Int)(a:gd)(d f:Int):fi:=
 ⟨
  (gW e.gY b.ig d a.kind a.obj f).1,
  if a.kind=4 then b.cells.set a.obj.toNat (cont (mD e b d a.uY) a.value)else b.cells,
  if a.kind=22 then b.fR.set a.obj.toNat (cont (mD e b d a.uY) a.value)else b.fR,
  b.order++[c],
  if a.kind=3 then b.fixed.set c.toNat (fixC b.cells a.obj a.value)else if a.kind=23 then b.fixed.set c.toNat (fixC b.fR a.obj a.value)else b.fixed,
  if a.kind=18 then(if 0<=(gW e.gY b.ig d a.kind a.obj f).2 then b.pM.set c.toNat 1 else b.pM)
   else if a.kind=19 then b.pM.set c.toNat (gW e.gY b.ig d a.kind a.obj f).2 else b.pM⟩
def jp(b:fh)(c:fi)(a:fG):fi×Bool:=
 if iO b c a.fa=true then(oZ b c (jn b c a.fa) (mL b.eZ (jn b c a.fa)) a.fa a.pI,true)else(So,false)
def jv(a:fh):fi:=⟨a.mP.ig,a.mP.cells.map λb=>⟨b,true⟩,a.mP.fR.map λb=>⟨b,true⟩,[],List.replicate a.eZ.length false,List.replicate a.eZ.length 0⟩
def kG(a:fh)(b:fi)(c:Int):List Int:=
 if 0<=jn a b c/\(mL a.eZ (jn a b c)).kind=18/\jb (mL a.eZ (jn a b c)).obj b.ig.eY 0≠ []then jb (mL a.eZ (jn a b c)).obj b.ig.eY 0 else [-1]
def mY(c:fh)(b:fi)(e:Nat):List fG:=(List.range e).flatMap λ(a:Nat)=>if iO c b a=true then(kG c b a).map λd=>⟨a,d⟩else []
def qh(a:fh)(c:fi)(b:Int):Bool:=decide (jn a c (mL a.eZ b).fa=b)&&iO a c (mL a.eZ b).fa
def place(a:fi)(b:Int):Int:=kV a.order b 0
def pL(a:fi)(b:Int):Bool:=decide (so a.pM b=G 0)
def Ah(g:fh)(f:fi)(e:iv):Bool:=
 if e.kind=1 then qh g f e.a&&qh g f e.b
 else if e.kind=2 then e.jA.all λh=>decide (jn g f (mL g.eZ h).fa=h)&&(!decide ((mL g.eZ h).kind=17)||decide ((qu f.ig (mL g.eZ h).fa).jq=4))
 else if e.kind=3 then decide (f.order.getLast?=G e.b)&&decide (0<=place f e.a)&&pL f e.a
 else decide (0<=place f e.a)&&decide (place f e.a<place f e.c)&&decide (0<=place f e.d)&&qh g f e.b
structure yN(N:Nat)(w:fh)(c:fi):Prop where
 fx:c.fixed.length=w.eZ.length
 wk:c.pM.length=w.eZ.length
 ce:w.eZ≠ []->c.cells.length=w.gY.cells.length
 fu:w.eZ≠ []->c.fR.length=w.gY.fR.length
 ft:w.eZ≠ []->ou w.gY c.ig
 rd:∀l∈c.ig.fT,l.gh.length<=N
 BP:c.ig.BP
 od:c.order.length<=N
def allI{b:Type}(a:Nat->b->Bool):Nat->List b->Bool
 |_,[]=>true
 |k,d::c=>a k d&&allI a (k+1) c
def ye(a:Nat):Bool:=decide (97<=a/\a<=122)||decide (65<=a/\a<=90)
def He(a:Nat):Bool:=decide (48<=a/\a<=57)
def zI(a:Nat):Bool:=ye a||He a||decide (a=95)
def qp:List (List Nat):=[[118,97,114],[118,111,108,97,116,105,108,101],[109,117,116,101,120],[114,119,108,111,99,107],[99,111,110,100],[102,117,116,117,114,101],[116,104,114,101,97,100],[105,102],[101,108,115,101],[119,104,105,108,101],[108,111,99,107],[114,101,97,100],[119,114,105,116,101],[116,114,97,110,115,97,99,116,105,111,110],[97,116,111,109,105,99],[119,97,105,116],[110,111,116,105,102,121],[110,111,116,105,102,121,97,108,108],[115,112,97,119,110],[106,111,105,110],[115,101,116],[103,101,116]]
def xE(a:List Nat):Bool:=decide (a∈qp)
def PI(a:List Nat):Bool:=match a with|c::_=>ye c| []=>false
def xw(a:List Nat):Bool:=decide (1<=a.length)&&decide (a.length<=12)&& !xE a&&PI a&&a.all zI
def zv(a:List (List Nat)):Bool:=a.all xw&&decide a.Nodup
def Pf(a:jm)(c:List jm):Bool:=allI (λb d=>decide (d={a with index:=b,BY:=false})) 0 (c.take a.size.toNat)
def jU:List jm->aa (List (List Nat))
 | []=>some []
 |c::a=>if c.size=0 then(if c.index=0 then(jU a).map (c.name:: ·)else none)
  else if d:c.size<1\/4<c.size\/(a.length+1:Int)<c.size then none
  else if Pf c (c::a)=true then(jU ((c::a).drop c.size.toNat)).map (c.name:: ·)else none
 termination_by b=>b.length
 decreasing_by
  simp;simp;omega
def nP(b:Nat):Int->Int->List jJ->Bool
 |_,_,[]=>true
 |t,d,a::c=>if a.fa<t\/(b:Int)<=a.fa then false else
  if t<a.fa then(if a.stmt=0 then nP b a.fa 1 c else false)else(if a.stmt=d then nP b t (d+1) c else false)
def xz(c:fU)(a:Int)(rw:Bool):Bool:=match so c.fT a with|some b=>b.rW==rw|none=>false
def wq(a:fU):Bool:=decide (a.cells.length<=12)&&decide (a.fT.length<=4)&&decide (a.jl.length<=2)&&decide (a.fR.length<=2)&&decide (a.jM.length<=60)&&decide (1<=a.eY.length)&&decide (a.eY.length<=4)
def uW(a:fU)(b:List (List Nat)):List (List Nat):=b++a.fT.map (·.name)++a.jl.map (·.name)++a.fR++a.eY
def Fj(a:fU):Bool:=match jU a.cells with|none=>false|some b=>zv (uW a b)
def lY(a:fU):Bool:=wq a&&Fj a&&(a.jl.all λb=>xz a b.oG false)&&nP a.eY.length 0 0 a.jM
def Af(c:fU)(b:Int):Bool:=match so c.cells b with|some a=>decide (a.size=0)|none=>false
def D6(d:fU)(b c:Int):Bool:=match so d.cells b with|some a=>decide (a.index=0)&& !decide (a.size=0)&&decide (a.size=c)|none=>false
def jQ(d:iK):List Int:=
 if d.op=1\/d.op=6\/d.op=10\/d.op=27 then [d.a]else if d.op=2\/d.op=3 then [d.a,d.b]else if d.op=4 then [d.a,d.b,d.c]
 else if d.op=7 then [d.a,d.c]else if d.op=8\/d.op=26 then [d.b]else if d.op=9 then [d.b,d.c]else []
def oS(d:fU)(c:iK):Bool:=
 if c.op=6 then Af d c.b else if c.op=8 then Af d c.a else if c.op=7 then D6 d c.b c.n else if c.op=9 then D6 d c.a c.n
 else if c.op=11\/c.op=12 then xz d c.a false else if c.op=13\/c.op=14\/c.op=15\/c.op=16 then xz d c.a true
 else if c.op=21\/c.op=22\/c.op=23 then jB c.a d.jl.length else if c.op=24\/c.op=25 then jB c.a d.eY.length
 else if c.op=26 then jB c.a d.fR.length else if c.op=27 then jB c.b d.fR.length
 else if c.op=3 then decide (c.n=4\/c.n=5)else if c.op=4 then decide (6<=c.n/\c.n<=18)else true
def Ae(a:Int):Bool:=decide (1<=a/\a<=5)
def N7(b:iK)(c:Int):Int:=if b.op=5 then b.a else c+1
def GH(c:List iK):Nat->Int->Bool
 |0,_=>false
 |m+1,b=>match so c b with
  |none=>false
  |some a=>if Ae a.op=true then GH c m (N7 a b)else true
def Kf{b a:Type}(e:b->a->Bool)(f:List a->a->Bool)(d:b->a->b):List a->b->List a->Bool
 |_,_,[]=>true
 |pre,g,c::h=>(e g c&&f pre c)&&Kf e f d (pre++[c]) (d g c) h
def RU{c a:Type}{g:c->a->Bool}{j:List a->a->Bool}{f:c->a->c}:∀(b h:List a) (e:c),Kf g j f h e b->vt g f e b=true:=by
 intro b;induction b with
 |nil=>intro _ _ _;rfl
 |cons k b i=>
  intro h e d;simp[Kf,aC]at d;simp[vt,aC];exact⟨d.1.1,i _ _ d.2⟩
def Wf(b:List gd)(a:gd):Bool:=y7 b a.fa a.m9&&y7 b a.fa a.uY
def tS(a:fU)(b:List gd):Bool:=decide (b.length<=400)&&lY a&&Kf (uD a) Wf (oN a) [] (kP a) b
def CW{b:fU}{c:List gd}(a:tS b c):runs b (kP b) c/\b.eY.length<=4/\c.length<=400:=by unfold tS at a;simp[aC,aP]at a;refine⟨RU _ _ _ a.2,?_,a.1.1⟩;have d:=a.1.2;unfold lY wq at d;simp[aC,aP]at d;omega
structure yM(N:Nat)(s:ir):Prop where
 l:s.ig.fT.length<=1000/\s.ig.done.length<=1000/\s.ig.eY.length<=1000/\s.cells.length<=1000/\s.fR.length<=1000/\s.count.length<=1000
 r:∀l∈s.ig.fT,l.gh.length<=N
 a:s.ig.BP
 c:∀c∈s.count,-N<=c/\c<=N
def yM.up{e Mq:Nat}{f:ir}(b:yM e f)(i:e<=Mq):yM Mq f:=⟨b.l,λh d=>iV (b.r h d),b.a,λg d=>iV (b.c g d)⟩
def abm{b:Nat}{c:iu}{i:Int}{d:fF->fF}(e:∀a∈c.fT,a.gh.length<=b)(g:∀a∈c.fT,(d a).gh.length<=b+1):∀a∈(c.sj i d).fT,a.gh.length<=b+1:=by
 intro a hl;rcases mem_modify hl with f|⟨j,h,rfl⟩
 have:=e a f;omega;exact g j h
def Jb{d:Nat}{j:iu}(k:∀a∈j.fT,a.gh.length<=d)(p:fU)(h m n q:Int):∀a∈(gW p j h m n q).1.fT,a.gh.length<=d+1:=by
 have c:∀a∈j.fT,a.gh.length<=d+1:=λa o=>iV (k a o);have l:∀(f:Int) (b:fF->fF),(∀a,(b a).gh=a.gh\/(b a).gh=oF a.gh h\/(b a).gh=a.gh.filter λg=> !decide (g=h))->∀a∈(j.sj f b).fT,a.gh.length<=d+1:=λf b i=>abm k λa hl=>by
  have r:=k a hl;rcases i a with e|e|e<;>rw[e]
  omega;have:=LV a.gh h;omega;have:=List.length_filter_le (λg=> !decide (g=h)) a.gh;omega
 exact yu (P:=λg=>∀a∈g.1.fT,a.gh.length<=d+1) c c (λ_ _ _=>c) (λf b i=>⟨l f b i,λ_ _=>l f b i⟩) (λ_=>c) (λ_ _=>c) (λ_=>c)
def Qz(a:Nat):yM a xU:=⟨by simp[xU],by simp[xU],by intro b hl;simp[xU]at hl,by simp[xU]⟩
def yM.step{e:Nat}{f:ir}(d:yM e f)(g:fU)(b:gd):yM (e+1) (lP g f b).1:=by unfold lP;split;have hl:=BS g f.ig b.fa b.kind b.obj (nT b);have⟨l1,l2,l3,l4,l5,l6⟩:=d.l;refine⟨⟨by show(gW ..).1.fT.length<=_;omega,by show(gW ..).1.done.length<=_;omega,by show(gW ..).1.eY.length<=_;omega,?_,?_,?_⟩,Jb d.r _ _ _ _ _,yt d.a _ _ _ _ _,λh i=>?_⟩;unfold oN;simp only;split<;>simp[l4];unfold oN;simp only;split<;>simp[l5];unfold oN;simp[l6];rcases mem_modify (i)with k|⟨m,j,rfl⟩;have:=d.c h k;omega;have:=d.c m j;omega;exact(Qz e).up (Nat.le_succ e)
def yM.yw{w:fU}:∀(a:List gd) {b:Nat} {c:ir},yM b c->yM (b+a.length) (yw w c a):=by
 intro a;induction a with
 |nil=>intro b c d;exact d
 |cons e a f=>
  intro b c d;have:=f (d.step w e);rw[show b+1+a.length=b+(e::a).length by simp;omega]at this;exact this
def Bd(a:fU)(d:a.fT.length<=1000/\a.fR.length<=1000/\a.eY.length<=1000/\a.cells.length<=1000):yM 0 (kP a):=by refine⟨by simp[kP,mI];omega,λe hl=>?_,yV a,λc b=>?_⟩;simp[kP,mI]at hl;obtain⟨_,rfl⟩:=hl;simp;simp[kP]at b;omega
end
end Go.Proofs.YtdpclhaknmicoaaGreatDoor
namespace Go.TI
noncomputable section
section
attribute [-simp] gu fI
section
def gT(a:Bool)(b:T):T:=match a with|true=>b|false=> .undef
def mgT(a:Bool)(b c:T):T:=match a with|true=>b|false=>c
@[simp]theorem afo (b:Bool) (a:T):mgT b a a=a:=by cases b<;>rfl
@[simp]theorem aj1 (a:Bool) (b:T):mgT a b .undef=gT a b:=by cases a<;>rfl
@[simp]theorem aj0 (a:Bool) (b:T):mgT a .undef b=gT (!a) b:=by cases a<;>rfl
@[simp]theorem aj2 (a b c:Bool):mgT a (.bool b) (.bool c)= .bool (bif a then b else c):=by cases a<;>rfl
def mgV(a:Bool)(b c:iM):iM:=match a with|true=>b|false=>c
@[simp]theorem afm (b:Bool) (a:iM):mgV b a a=a:=by cases b<;>rfl
@[simp]theorem afn (a:Bool) (b:Nat) (e g:T) (c d:iM):mgV a (.cons b e c) (.cons b g d)= .cons b (mgT a e g) (mgV a c d):=by cases a<;>rfl
def yI:iM->Nat->T->iM
 | .nil,_,_=> .nil
 | .cons a e b,c,d=>if a=c then .cons a d b else .cons a e (yI b c d)
@[simp]def QR (a c:Nat) (e d:T) (b:iM):yI (.cons a e b) c d=if a=c then .cons a d b else .cons a e (yI b c d):=a9
def w7:∀{c:iM} {b:Nat} {d:T},mB c b=G d->yI c b d=c
 | .nil,_,_,_=>rfl
 | .cons e i g,b,d,h=>by
  rw[oP]at h;rw[QR];by_cases a:e=b;rw[au a]at h;simp[aw]at h;rw[au a,h];rw[aq a]at h;rw[aq a,w7 h]
def HK(a:Nat):List Oper->List Oper
 | []=>[]
 |o::c=>match o.guard with|some (b,_)=>if a<=b then o::HK a c else []|none=>[]
def PU(b:Nat):List Oper->List Oper
 | []=>[]
 |o::a=>match o.guard with|some (c,_)=>if b<=c then PU b a else o::a|none=>o::a
def SB(b:Nat):∀a,HK b a++PU b a=a
 | []=>rfl
 |o::a=>by
  unfold HK PU;rcases o.guard with _|c
  rfl;simp only;split;rw[aW,SB b a];rfl
section
variable {cx:Ctx}{cf:jS}{V:Nat}
def ajU (c:Nat) (b:aa Tmp) (e:Op) (i:ab) (g:String) (a:af Edge) (d:List Oper):HK c (⟨b,e,i,g,a,none⟩::d)=[]:=a9
def akb (i:Nat) (b:aa Tmp) (d:Op) (g:ab) (e:String) (a:af Edge) (c:List Oper):PU i (⟨b,d,g,e,a,none⟩::c)=⟨b,d,g,e,a,none⟩::c:=a9
def ajV (a b:Nat) (d:Bool) (e:aa Tmp) (i:Op) (k:ab) (j:String) (c:af Edge) (g:List Oper):HK a (⟨e,i,k,j,c,some (b,d)⟩::g)=if a<=b then⟨e,i,k,j,c,some (b,d)⟩::HK a g else []:=a9
def akc (a b:Nat) (e:Bool) (g:aa Tmp) (i:Op) (k:ab) (j:String) (d:af Edge) (c:List Oper):PU a (⟨g,i,k,j,d,some (b,e)⟩::c)=if a<=b then PU a c else⟨g,i,k,j,d,some (b,e)⟩::c:=a9
attribute [simp] ajU akb ajV akc
def yY(a:af Oper)(c:Oper)(g:List Oper)(b:Env)(h:H):
 mK cx cf V a (c::g) b h=Z (B0 cx cf V a b h c) λi=>two i λj e=>Z (b.dst V c.dst j) λd=>mK cx cf V a g d e:=by
 show(Z (nW cx cf V a b h c) λi=>two i λd e=>mK cx cf V a g d e)=_;rw[uT]
def wQ(b:af Oper):∀(c d:List Oper) (a:Env) (h:H),mK cx cf V b (c++d) a h=Z (mK cx cf V b c a h) λi=>two i λe g=>mK cx cf V b d e g
 | [],_,_,_=>rfl
 |o::c,d,a,h=>by
  rw[aW,yY,yY];rcases B0 cx cf V b a h o with _|i
  rfl;obtain⟨j,g⟩:=i;simp[fw,nh];rcases a.dst V o.dst j with _|e;rfl;simp[fw];exact wQ b c d e g
def uU(cx:Ctx)(cf:jS)(V:Nat)(b:af Oper)(a:List Oper)(d c:iM)(h:H):aa (Env×H):=mK cx cf V b a ⟨d,c⟩ h
def SG(l:aa (T×H))(cx:Ctx)(cf:jS)(V:Nat)(e:af Oper)(a:aa Tmp)(d:List Oper)(k i:iM):aa (Env×H):=
 Z l λg=>two g λj c=>Z (Env.dst V ⟨k,i⟩ a j) λb=>mK cx cf V e d b c
@[simp]def aez (c:af Oper) (b a:iM) (h:H):uU cx cf V c [] b a h=G (⟨b,a⟩,h):=a9
def UZ(d b:iM)(a:Tmp)(c:T):Env.dst V ⟨d,b⟩ (some a) c=G (if(V>>>a)&&&1=1 then⟨put d a c,b⟩else⟨d,.cons a c b⟩):=by show @Bool.rec (λ_=>aa Env) (some ⟨d,.cons a c b⟩) (Z (pQ d a c) λe=>some ⟨e,b⟩) (lO V a)=_;rw[sL];have:=GG V a;cases hl:lO V a;rw[aq (by rw[<-this,hl];simp)];rw[au (this▸hl)];rfl
@[simp]theorem ah1 (e:T) (h:H) (c:af Oper) (a:Tmp) (b:List Oper) (g d:iM):SG (some (e,h)) cx cf V c (some a) b g d=
 if(V>>>a)&&&1=1 then uU cx cf V c b (put g a e) d h else uU cx cf V c b g (.cons a e d) h:=by
 unfold SG;rw[fw,nh,UZ,fw];split<;>rfl
def G3(o:aa Tmp)(i:aa Bool)(m:Nat)(l:Bool)(cx:Ctx)(cf:jS)(V:Nat)(g:af Oper)(c:aa Tmp)(e:Op)(p:ab)(n:String)(k:af Edge)(d:List Oper)(b a:iM)(h:H):aa (Env×H):=
 SG (Z i λj=> @Bool.rec (λ_=>aa (T×H)) (some (.undef,h)) (fin cf h (j9 e cx V ⟨b,a⟩ h)) j) cx cf V g c d b a
def Ni(a:af Oper)(j:aa Tmp)(k:Op)(m:ab)(l:String)(i:af Edge)(c:Nat)(b:Bool)(d:List Oper)(g e:iM)(h:H)(n:aa Tmp):
 uU cx cf V a (⟨j,k,m,l,i,some (c,b)⟩::d) g e h=G3 n (mf a V ⟨g,e⟩ (some (c,b))) c b cx cf V a j k m l i d g e h:=yY a _ d _ h
@[simp]def KR (b:List Oper) (i:aa Tmp) (k:Op) (m:ab) (l:String) (g:af Edge) (a:Nat) (c:Bool) (j:List Oper) (e d:iM) (h:H):
 uU cx cf V b.toArray (⟨i,k,m,l,g,some (a,c)⟩::j) e d h=G3 (Z (b[a]?) λn=>n.dst) (mf b.toArray V ⟨e,d⟩ (some (a,c))) a c cx cf V b.toArray i k m l g j e d h:=Ni b.toArray i k m l g a c j e d h _
@[simp]def ah7 (m:aa Tmp) (k:Nat) (j:Bool) (g:af Oper) (c:aa Tmp) (e:Op) (n:ab) (l:String) (i:af Edge) (d:List Oper) (b a:iM) (h:H):G3 m (some true) k j cx cf V g c e n l i d b a h=SG (fin cf h (j9 e cx V ⟨b,a⟩ h)) cx cf V g c d b a:=a9
@[simp]def agL (m:aa Tmp) (j:Nat) (i:Bool) (c:af Oper) (a:aa Tmp) (k:Op) (n:ab) (l:String) (g:af Edge) (b:List Oper) (e d:iM) (h:H):G3 m (some false) j i cx cf V c a k n l g b e d h=SG (some (.undef,h)) cx cf V c a b e d:=a9
def BGo(a:Bool)(g i:aa (Env×H))(cx:Ctx)(cf:jS)(V:Nat)(c:af Oper)(e:List Oper):aa (Env×H):=Z (bif a then g else i) λd=>two d λb h=>mK cx cf V c e b h
@[congr] theorem ado {a b:Bool} {g i j k:aa (Env×H)} {c:af Oper} {d e:List Oper} (l:a=b) (m:g=i) (n:j=k) (hr:d=e):BGo a g j cx cf V c d=BGo b i k cx cf V c e:=by rw[l,m,n,hr]
@[simp]theorem aie (a:Bool) (g d i e:iM) (h:H) (b:af Oper) (c:List Oper):BGo a (some (⟨g,d⟩,h)) (some (⟨i,e⟩,h)) cx cf V b c=uU cx cf V b c (mgV a g i) (mgV a d e) h:=by cases a<;>rfl
def PQ{e c:iM}{a:Tmp}{d:T}(g:(V>>>a)&&&1=0)(b:Env.get V ⟨e,c⟩ a=G d):mB c a=G d:=by rw[E6,aq J]at b;exact b
def SS{b:List Oper}{g:Tmp}{i:Bool}{a:List Oper}{d c:iM}{h:H}(e:Nat)(n:(V>>>g)&&&1=0)(m:Env.get V ⟨d,c⟩ g=G (.bool i)):
 uU cx cf V b.toArray a d c h=BGo i (uU cx cf V b.toArray (HK e a) d (yI c g (.bool true)) h) (uU cx cf V b.toArray (HK e a) d (yI c g (.bool false)) h) cx cf V b.toArray (PU e a):=by
 have j:=PQ n m;have:uU cx cf V b.toArray a d c h=Z (uU cx cf V b.toArray (HK e a) d c h) λo=>two o λk l=>mK cx cf V b.toArray (PU e a) k l:=by
  show mK cx cf V b.toArray a ⟨d,c⟩ h=_
  conv=>lhs;rw[<-SB e a]
  exact wQ _ _ _ _ _
 rw[this];cases i
 .conv=>lhs;rw[<-w7 j]
  rfl
 .conv=>lhs;rw[<-w7 j]
  rfl
def V6(d:List Oper)(b:Tmp)(o:Bool)(a:Nat)(c:Bool)(g:aa Tmp)(j:Op)(l:ab)(k:String)(e:af Edge)(i:List Oper)(n m:iM)(h:H)(r:Bool)
 (s:(V>>>b)&&&1=0) (p:(Z (d[a]?) λu=>u.dst)=G b) (q:Env.get V ⟨n,m⟩ b=G (.bool o)) (t:r=(o==c)):
 G3 (some b) (some r) a c cx cf V d.toArray g j l k e i n m h=
  BGo o (uU cx cf V d.toArray (HK a (⟨g,j,l,k,e,some (a,c)⟩::i)) n (yI m b (.bool true)) h) (uU cx cf V d.toArray (HK a (⟨g,j,l,k,e,some (a,c)⟩::i)) n (yI m b (.bool false)) h) cx cf V d.toArray (PU a (⟨g,j,l,k,e,some (a,c)⟩::i)):=by
 subst t;rw[<-SS a s q,KR,p,Fq,p,fw,q,Fo]
@[simp low] theorem ah8 (c:List Oper) (b:Tmp) (e:Bool) (a:Nat) (g:aa Tmp) (j:Op) (l:ab) (k:String) (d:af Edge) (i:List Oper) (n m:iM) (h:H)
 (q:(V>>>b)&&&1=0) (o:(Z (c[a]?) λr=>r.dst)=G b) (p:Env.get V ⟨n,m⟩ b=G (.bool e)):
 G3 (some b) (some e) a true cx cf V c.toArray g j l k d i n m h=
  BGo e (uU cx cf V c.toArray (HK a (⟨g,j,l,k,d,some (a,true)⟩::i)) n (yI m b (.bool true)) h) (uU cx cf V c.toArray (HK a (⟨g,j,l,k,d,some (a,true)⟩::i)) n (yI m b (.bool false)) h) cx cf V c.toArray (PU a (⟨g,j,l,k,d,some (a,true)⟩::i)):=
 V6 c b e a true g j l k d i n m h e q o p Y 
@[simp low] theorem ah9 (d:List Oper) (b:Tmp) (c:Bool) (a:Nat) (g:aa Tmp) (j:Op) (l:ab) (k:String) (e:af Edge) (i:List Oper) (n m:iM) (h:H)
 (q:(V>>>b)&&&1=0) (o:(Z (d[a]?) λr=>r.dst)=G b) (p:Env.get V ⟨n,m⟩ b=G (.bool !c)):
 G3 (some b) (some c) a false cx cf V d.toArray g j l k e i n m h=
  BGo (!c) (uU cx cf V d.toArray (HK a (⟨g,j,l,k,e,some (a,false)⟩::i)) n (yI m b (.bool true)) h) (uU cx cf V d.toArray (HK a (⟨g,j,l,k,e,some (a,false)⟩::i)) n (yI m b (.bool false)) h) cx cf V d.toArray (PU a (⟨g,j,l,k,e,some (a,false)⟩::i)):=
 V6 d b (!c) a false g j l k e i n m h c q o p (by cases c<;>rfl)
def G2(o:aa Tmp)(j:aa Bool)(m:Nat)(l:Bool)(cx:Ctx)(cf:jS)(V:Nat)(e:af Oper)(b:aa Tmp)(d:Op)(p:ab)(n:String)(k:af Edge)(c:List Oper)(i g:iM)(h:H)(a:jH):Prop:=GK j cx cf V e b d c i g h a
@[simp]def Sc (b:List Oper) (j:aa Tmp) (l:Op) (n:ab) (m:String) (i:af Edge) (a:Nat) (c:Bool) (k:List Oper) (e d:iM) (h:H) (g:jH):
 RK cx cf V b.toArray (⟨j,l,n,m,i,some (a,c)⟩::k) e d h g=G2 (Z (b[a]?) λo=>o.dst) (mf b.toArray V ⟨e,d⟩ (some (a,c))) a c cx cf V b.toArray j l n m i k e d h g:=gu b.toArray j l n m i a c k e d h g
@[simp]def aia (n:aa Tmp) (l:Nat) (k:Bool) (i:af Oper) (d:aa Tmp) (g:Op) (o:ab) (m:String) (j:af Edge) (e:List Oper) (b a:iM) (h:H) (c:jH):G2 n (some true) l k cx cf V i d g o m j e b a h c=XK (fin cf h (j9 g cx V ⟨b,a⟩ h)) cx cf V i d e b a c:=a9
@[simp]theorem agM (n:aa Tmp) (k:Nat) (j:Bool) (d:af Oper) (b:aa Tmp) (l:Op) (o:ab) (m:String) (i:af Edge) (c:List Oper) (g e:iM) (h:H) (a:jH):G2 n (some false) k j cx cf V d b l o m i c g e h a=XK (some (.undef,h)) cx cf V d b c g e a:=by unfold XK;rw[C5];rfl
def BG(c:Bool)(g i:aa (Env×H))(cx:Ctx)(cf:jS)(V:Nat)(d:af Oper)(e:List Oper)(b:jH):Prop:=
 (c->∃a h,g=G (a,h)/\RK cx cf V d e a.vars a.tmps h b)/\(c=false->∃a h,i=G (a,h)/\RK cx cf V d e a.vars a.tmps h b)
@[congr] theorem agV {b c:Bool} {i j k l:aa (Env×H)} {d:af Oper} {e g:List Oper} {a:jH} (m:b=c) (n:i=j) (o:k=l) (hr:e=g):BG b i k cx cf V d e a=BG c j l cx cf V d g a:=by rw[m,n,o,hr]
@[simp]def ajK (c:Bool) (k i l j:iM) (h:H) (e:af Oper) (g:List Oper) (d:jH):BG c (some (⟨k,i⟩,h)) (some (⟨l,j⟩,h)) cx cf V e g d=RK cx cf V e g (mgV c k l) (mgV c i j) h d:=by unfold BG;apply propext;cases c;constructor;intro a;have⟨m,n,b,hr⟩:=a.2 rfl;simp[aw,aH]at b;obtain⟨rfl,rfl⟩:=b;exact hr;exact λa=>⟨λo=>by grind,λ_=>⟨_,_,rfl,a⟩⟩;constructor;intro a;have⟨m,n,b,hr⟩:=a.1 rfl;simp[aw,aH]at b;obtain⟨rfl,rfl⟩:=b;exact hr;exact λa=>⟨λ_=>⟨_,_,rfl,a⟩,λo=>by grind⟩
def acu(e:af Oper)(g q:List Oper)(j i:iM)(h:H)(k:jH):RK cx cf V e (g++q) j i h k=∃l a,uU cx cf V e g j i h=G (l,a)/\RK cx cf V e q l.vars l.tmps a k:=by apply propext;show(∃b a,mK cx cf V e (g++q) ⟨j,i⟩ h=G (b,a)/\k.n ⟨b.vars,.nil⟩ a)↔_;rw[wQ];constructor;rintro⟨b,a,c,p⟩;have⟨⟨m,o⟩,d,c⟩:=eQ.1 c;exact⟨m,o,d,b,a,c,p⟩;rintro⟨m,o,d,b,a,c,p⟩;have d:mK cx cf V e g ⟨j,i⟩ h=G (m,o):=d;exact⟨b,a,d▸c,p⟩
def V7(i:List Oper)(k:Tmp)(o:Bool)(a:Nat)(b:Bool)(d:aa Tmp)(g:Op)(l:ab)(j:String)(c:af Edge)(e:List Oper)(n m:iM)(h:H)(p:jH)(t:Bool)
 (v:(V>>>k)&&&1=0) (q:(Z (i[a]?) λx=>x.dst)=G k) (r:Env.get V ⟨n,m⟩ k=G (.bool o)) (w:t=(o==b)):
 G2 (some k) (some t) a b cx cf V i.toArray d g l j c e n m h p=
  BG o (uU cx cf V i.toArray (HK a (⟨d,g,l,j,c,some (a,b)⟩::e)) n (yI m k (.bool true)) h) (uU cx cf V i.toArray (HK a (⟨d,g,l,j,c,some (a,b)⟩::e)) n (yI m k (.bool false)) h) cx cf V i.toArray (PU a (⟨d,g,l,j,c,some (a,b)⟩::e)) p:=by
 subst w;have s:=PQ v r;have u:G2 (some k) (some (o==b)) a b cx cf V i.toArray d g l j c e n m h p=RK cx cf V i.toArray (⟨d,g,l,j,c,some (a,b)⟩::e) n m h p:=by
  rw[Sc,q,Fq,q,fw,r,Fo]
 rw[u]
 conv=>lhs;rw[<-SB a (⟨d,g,l,j,c,some (a,b)⟩::e)]
 rw[acu];unfold BG;apply propext;cases o
 .conv=>lhs;rw[<-w7 s]
  simp
 .conv=>lhs;rw[<-w7 s]
  simp
@[simp low] theorem aib (c:List Oper) (b:Tmp) (e:Bool) (a:Nat) (g:aa Tmp) (j:Op) (l:ab) (k:String) (d:af Edge) (i:List Oper) (n m:iM) (h:H) (o:jH)
 (r:(V>>>b)&&&1=0) (p:(Z (c[a]?) λs=>s.dst)=G b) (q:Env.get V ⟨n,m⟩ b=G (.bool e)):
 G2 (some b) (some e) a true cx cf V c.toArray g j l k d i n m h o=
  BG e (uU cx cf V c.toArray (HK a (⟨g,j,l,k,d,some (a,true)⟩::i)) n (yI m b (.bool true)) h) (uU cx cf V c.toArray (HK a (⟨g,j,l,k,d,some (a,true)⟩::i)) n (yI m b (.bool false)) h) cx cf V c.toArray (PU a (⟨g,j,l,k,d,some (a,true)⟩::i)) o:=
 V7 c b e a true g j l k d i n m h o e r p q Y 
@[simp low] theorem aic (d:List Oper) (b:Tmp) (c:Bool) (a:Nat) (g:aa Tmp) (j:Op) (l:ab) (k:String) (e:af Edge) (i:List Oper) (n m:iM) (h:H) (o:jH)
 (r:(V>>>b)&&&1=0) (p:(Z (d[a]?) λs=>s.dst)=G b) (q:Env.get V ⟨n,m⟩ b=G (.bool !c)):
 G2 (some b) (some c) a false cx cf V d.toArray g j l k e i n m h o=
  BG (!c) (uU cx cf V d.toArray (HK a (⟨g,j,l,k,e,some (a,false)⟩::i)) n (yI m b (.bool true)) h) (uU cx cf V d.toArray (HK a (⟨g,j,l,k,e,some (a,false)⟩::i)) n (yI m b (.bool false)) h) cx cf V d.toArray (PU a (⟨g,j,l,k,e,some (a,false)⟩::i)) o:=
 V7 d b (!c) a false g j l k e i n m h o c r p q (by cases c<;>rfl)
def Nt{a d e:Bool}{h:H}{b c:aa nO}(g:a->b=be (.bool d) h)(i:a=false->c=be (.bool e) h):pU (some (.bool a)) b c=be (.bool (bif a then d else e)) h:=by cases a;exact i rfl;exact g rfl
@[simp]def ag7 (a b:aa nO):pU (some (.bool true)) a b=a:=a9
@[simp]def aeP (b a:aa nO):pU (some (.bool false)) b a=a:=a9
@[simp]def ajY (a b c:Bool) (h:H):pU (some (.bool a)) (be (.bool b) h) (be (.bool c) h)=be (.bool (bif a then b else c)) h:=Nt (λ_=>rfl) (λ_=>rfl)
@[simp]def ajX (a c d b:Bool) (h:H) (g:a=false->b):pU (some (.bool a)) (be (.bool c) h) (be (gT b (.bool d)) h)=be (.bool (bif a then c else d)) h:=Nt (λ_=>rfl) (λe=>by rw[g e];rfl)
@[simp]def ajW (a c d b:Bool) (h:H) (g:a->b):pU (some (.bool a)) (be (gT b (.bool c)) h) (be (.bool d) h)=be (.bool (bif a then c else d)) h:=Nt (λe=>by rw[g e];rfl) (λ_=>rfl)
end
def lZ(th:aj->aa mM):Op->Bool
 | .move _| .assign _| .pick .. | .load .. | .nilCheck _| .unOp .. | .binOp .. | .fieldAddr .. | .field .. | .indexAddr .. | .index .. | .extract .. | .slice .. =>true
 | .call b=>(match b.callee with
  | .builtin a=>(match a with| .len| .min| .max=>true|_=>false)
  | .value c=>(match c with| .func f=>(th f).isNone|_=>false)
  |_=>false)
 |_=>false
section
variable {th:aj->aa mM}
def ag4 (a:ah):lZ th (.move a)=true:=a9
def acK (a:ah):lZ th (.assign a)=true:=a9
def ag3 (a b c:ah):lZ th (.pick a b c)=true:=a9
def ag5 (a:ab) (b:ah):lZ th (.load a b)=true:=a9
def Zm (a:ah):lZ th (.nilCheck a)=true:=a9
def ag2 (a:UnOp) (b:ab) (c:ah):lZ th (.unOp a b c)=true:=a9
def aeL (a:BinOp) (b:ab) (d e:ah) (c:ab):lZ th (.binOp a b d e c)=true:=a9
def WS (a:ab) (b:ah) (f:Nat):lZ th (.fieldAddr a b f)=true:=a9
def aeI (a:ab) (b:ah) (f:Nat):lZ th (.field a b f)=true:=a9
def WQ (a:ab) (b c:ah):lZ th (.indexAddr a b c)=true:=a9
def aaH (b:ah) (a:Nat):lZ th (.extract b a)=true:=a9
def aeH (d:ab) (e:ah) (a b c:aa ah):lZ th (.slice d e a b c)=true:=a9
def aeJ (f:aj) (a:af ah) (b:af ab):lZ th (.call ⟨.value (.func f),a,b⟩)=(th f).isNone:=a9
def aiB (a:af ah) (b:af ab):lZ th (.call ⟨.builtin .len,a,b⟩)=true:=a9
def aiA (a:af ah) (b:af ab):lZ th (.call ⟨.builtin .min,a,b⟩)=true:=a9
def aeM (a:ab):lZ th (.alloc a)=false:=a9
def aeG (a:ab) (b c:ah):lZ th (.store a b c)=false:=a9
def aeK (b:ab) (a:af (Nat×ah)):lZ th (.build b a)=false:=a9
def Wg (c:ab) (a:Nat) (b:af (Nat×ah)):lZ th (.buildSlice c a b)=false:=a9
attribute [simp] ag4 acK ag3 ag5 Zm ag2 aeL WS aeI WQ aaH aeH aeJ aiB aiA aeM aeG aeK Wg
end
def Kp(th:aj->aa mM)(h:H)(e:aa nO):Prop:=∀a,e=G a->(∀d b,a= .val d b->b=h)/\∀f c,a= .call f c->th f=none
section
variable {th:aj->aa mM}{h:H}
theorem Kp.val(b:aa T):Kp th h (val h b):=by
 intro c a;have⟨d,_,a⟩:=eQ.1 a
 grind
def Kp.one(a:T):Kp th h (be a h):=Kp.val (some a)
theorem Kp.none:Kp th h none:=by intro a b;grind
theorem Kp.Z{α:Type}{e:aa α}{f:α->aa nO}(d:∀a,Kp th h (f a)):Kp th h (Z e f):=by intro c b;have⟨a,_,b⟩:=eQ.1 b;exact d a c b
theorem Kp.iX{b:Bool}{a:aa nO}(e:Kp th h a):Kp th h (iX b a):=by intro c d;exact e c (fq.1 d).2
def aaR{m:Op}(e:lZ th m)(cx:Ctx)(V:Nat)(s:Env):Kp th h (j9 m cx V s h):=by
 cases m<;>first|(simp[lZ]at e;done)|skip
 case move x=>exact Kp.val _
 case assign x=>exact Kp.val _
 case pick k n j=>
  rw[Xr];unfold pU;refine Kp.Z λa=>?_;cases a<;>first|exact Kp.none|grind [Kp.val]
 case load b n=>simp[Kp.val,Kp.Z]
 case nilCheck x=>exact Kp.Z λa=>by cases a<;>first|exact Kp.none|exact Kp.one _
 case unOp i b x=>simp[Kp.val,Kp.Z]
 case binOp i b x p D=>
  cases i<;>first
   |exact Kp.Z λ_=>Kp.Z λ_=>Kp.val _
   |exact Kp.Z λ_=>Kp.Z λ_=>Kp.Z λ_=>Kp.iX (Kp.Z λ_=>Kp.val _)
 case fieldAddr b x f=>
  exact Kp.Z λt=>Kp.Z λa=>by
   cases a<;>first|exact Kp.none|exact Kp.Z λ_=>Kp.one _
 case field b x f=>
  exact Kp.Z λt=>Kp.Z λ_=>Kp.Z λa=>by
   cases a<;>first|exact Kp.none|simp[Kp.val,Kp.Z]
 case indexAddr b x g=>
  exact Kp.Z λd=>Kp.Z λa=>Kp.Z λ_=>Kp.Z λg=>by
   cases d.u<;>first|exact Kp.none|(refine Kp.Z λv=>?_;first
    |(cases a<;>first|exact Kp.none|exact Kp.Z λ_=>Kp.iX (Kp.one _)|exact Kp.iX (Kp.Z λ_=>Kp.iX (Kp.iX (Kp.Z λ_=>Kp.one _))))
    |(refine Kp.iX ?_;cases a<;>first|exact Kp.none|exact Kp.Z λ_=>Kp.one _|(refine Kp.Z λq=>?_;cases Nat.beq q.sz v.size<;>first|exact Kp.Z λ_=>Kp.one _|simp[Kp.one,Kp.iX])))
 case index b x g=>
  exact Kp.Z λd=>Kp.Z λa=>Kp.Z λ_=>Kp.Z λg=>by
   cases d.u<;>first|exact Kp.none|(cases a<;>first|exact Kp.none|exact Kp.Z λ_=>Kp.val _|grind [Kp.val,Kp.Z,Kp.iX])
 case extract x g=>exact Kp.Z λa=>by cases a<;>first|exact Kp.none|exact Kp.val _
 case slice b x n j k=>exact Kp.Z λ_=>Kp.Z λ_=>Kp.iX (Kp.Z λ_=>Kp.Z λ_=>Kp.Z λ_=>Kp.iX (Kp.val _))
 rename_i k;obtain⟨r,w,C⟩:=k;cases r with
 |builtin j=>
  refine Kp.Z λl=>?_;cases j<;>first
   |(simp[lZ]at e;done)
   |(match l with
    | []=>exact Kp.none
    | [x]=>first|exact Kp.none|(refine Kp.Z λb=>Kp.Z λd=>?_;cases d.u<;>first|exact Kp.none|exact Kp.val _|(cases x<;>first|exact Kp.none|exact Kp.val _))
    | [x,p]=>first|exact Kp.val _|exact Kp.none
    |x::p::E::l=>exact Kp.none)
 |value i=>
  cases i with
  |func f=>
   have z:=e;refine Kp.Z λl=>?_;intro y c;obtain⟨a,o,c⟩:=eQ.1 c;simp[Q3,aw]at o;subst o;obtain⟨B,_,c⟩:=eQ.1 c;cases c;simp_all
  |_=>simp[lZ]at e
 |_=>grind [lZ]
end
section
variable {P:ai}{cx:Ctx}{tb:iq}{V:Nat}
def UV{j:Op}(o:lZ tb.h j){e:Env}{h:H}{k:T}{c:H}(a:fin (r7 P cx tb) h (j9 j cx V e h)=G (k,c)):c=h:=by
 have⟨d,m,a⟩:=eQ.1 a;have⟨r,p⟩:=aaR o cx V e d m;rcases d with⟨t,q⟩|⟨f,b⟩;simp[aw,aH]at a;rw[<-a.2];grind;have n:=p _ _ rfl;have a:r7 P cx tb f b h=G (k,c):=a;have g:hl P cx tb f b h=none:=by unfold hl;rw[n]
 rw[Vk]at a;rcases i:VM h b with _|l
 rw[i,Vi,g]at a;grind;rw[i,Vh,g]at a;rcases hr:rl P cx tb f l with _|s
 rw[hr]at a;simp at a;rw[hr,Vj]at a
 grind
def HC(j:af Oper)(k:List (Nat×Nat))(Q:iM->H->Prop):∀(g:List Oper) (e:Nat) (m:List (Nat×Nat)) (d:List (Nat×H×H)) (b a:iM) (h:H),(g.all λo=>lZ tb.h o.op)->(∀l∈d,l.2.1=l.2.2)->
 ON cx (r7 P cx tb) V j k g e m d b a h Q=WR cx (r7 P cx tb) V j g b a h Q
 | [],e,m,d,b,a,h,_,_=>by rw[Qr,VY]
 |o::g,e,m,d,b,a,h,n,q=>by
  simp only[cA,aC]at n;rw[MK,Kw];unfold B0;rcases mf j V ⟨b,a⟩ o.guard with _|C
  apply propext;constructor<;>(first|exact False.elim|(rintro⟨i,c,F,_⟩;simp_all));rw[fw];cases C;rw[ML,C5];congr 1;funext b a;exact HC j k Q g _ m d b a h n.2 q;rw[Qt];apply propext;have I:∀i c,fin (r7 P cx tb) h (j9 o.op cx V ⟨b,a⟩ h)=G (i,c)->
   ((DK cx V k e m d o.op ⟨b,a⟩ h c λm d=>WD V o.dst i b a λb a=>ON cx (r7 P cx tb) V j k g (e+1) m d b a c Q)↔WD V o.dst i b a λb a=>WR cx (r7 P cx tb) V j g b a c Q):=by
   intro i c y;have z:=UV n.1 y;subst z;have D:∀s,pj k e s d:=λs l n _=>by rw[q l n];simp
   have E:∀u v i,o.op≠ .store u v i:=λu v i B=>by have:=n.1;rw[B]at this;simp_all
   have t:∀r p,(∀l∈p,l.2.1=l.2.2)->((WD V o.dst i b a λb a=>ON cx (r7 P cx tb) V j k g (e+1) r p b a c Q)↔WD V o.dst i b a λb a=>WR cx (r7 P cx tb) V j g b a c Q):=by
    intro r p w;rw[show(λb a=>ON cx (r7 P cx tb) V j k g (e+1) r p b a c Q)=λb a=>WR cx (r7 P cx tb) V j g b a c Q from by funext b a;exact HC j k Q g _ r p b a c n.2 w]
   unfold DK;split;rw[Og];show(True/\_)/\(WD V o.dst i b a λb a=>ON cx (r7 P cx tb) V j k g (e+1) m (if nJ k e=true then(e,c,c)::d else d) b a c Q)↔_;have x:∀l∈(if nJ k e=true then(e,c,c)::d else d),l.2.1=l.2.2:=by
    grind
   rw[t _ _ x]
   grind
   rcases iY cx V ⟨b,a⟩ c o.op with _|s;exact t _ _ q;simp only;rw[t _ _ q];grind
  show(∃i c,_/\_)↔∃i c,_/\_
  grind
@[simp high] theorem ah3 (a:List Oper) (d:List (Nat×Nat)) (b:iM) (h:H) (c:jH) (e:(a.all λg=>lZ tb.h g.op)):QK cx (r7 P cx tb) V a (some d) b h c=RK cx (r7 P cx tb) V a.toArray a b .nil h c:=
 HC a.toArray d (λb h=>c.n ⟨b,.nil⟩ h) a 0 [] [] b .nil h e (λj i=>by grind)
end
def IU(b:T):Prop:=∃a,b= .int .i64 a
@[simp]def ahg (a:Int):IU (.int .i64 a)=True:=by simp[IU]
section
variable {P:ai}{cx:Ctx}{f:aj}{α:Type}{A:α->List T}{pre:α->Prop}{Q:α->T->Prop}
noncomputable abbrev p8.kx(_:p8 P cx f A pre Q):iF:=wR P cx f A pre Q
def p8.use(c:p8 P cx f A pre Q)(a:α)(b:pre a):∃d,Q a d/\∀{tb:iq},tb.p f=G (wR P cx f A pre Q)->rl P cx tb f (A a)=G d:=⟨_,c.2 a b,λht=>iL ht c.1 a b⟩
end
section
variable {P:ai}{cx:Ctx}{f:aj}{α γ:Type}{A:α->List T}{pre:α->Prop}
def p8.fnI(d:p8 P cx f A pre (λ_=>IU))(b:γ->α)(c:∀a,pre (b a)):∃e:γ->Int,∀{tb:iq},tb.p f=G (wR P cx f A pre (λ_=>IU))->∀a,rl P cx tb f (A (b a))=G (.int .i64 (e a)):=by refine⟨λa=>(d.2 (b a) (c a)).choose,λht a=>?_⟩;exact(iL ht d.1 (b a) (c a)).trans (bE some (d.2 (b a) (c a)).choose_spec)
end
@[simp]def akg (a:jO):jk 1 (hE.cons a)=True:=by simp;exact⟨Y,Y,Y⟩
@[simp]def akf (a b:jO):jk 2 ((hE.cons a).cons b)=True:=by simp;exact⟨Y,Y,Y⟩
@[simp]def ake (b c d a:jO):jk 4 ((((hE.cons b).cons c).cons d).cons a)=True:=by simp;exact⟨Y,Y,Y⟩
def tz(a:ak)(b c:Int):binop .add (.int a b) (.int a c)=G (.int a (a.wrap (b+c))):=by show iX (HY a a) (rN a (b+c))=_;simp
def we(a:ak)(b c:Int):binop .sub (.int a b) (.int a c)=G (.int a (a.wrap (b-c))):=by show iX (HY a a) (rN a (b-c))=_;simp
def afj(a:ak)(b c:Int):binop .mul (.int a b) (.int a c)=G (.int a (a.wrap (b*c))):=by show iX (HY a a) (rN a (b*c))=_;simp
def LS(c:T):Prop:=∃a b,c= .tuple [.int .i64 a,.int .i64 b]
@[simp]def ahh (a b:Int):LS (.tuple [.int .i64 a,.int .i64 b])=True:=by simp[LS]
end
end
section
section
variable {cx:Ctx}{V:Nat}{e:Env}
@[simp]def aa9 (a:ak) (b:Int):qM (.int a b)=G (.int a b):=a9
@[simp]def ZI:qM (.slice none 0 0)=G (.fg [] false):=a9
@[simp]def aa8 (a:ByteArray):qM (.string a)=G (.str (a.data.toList.map UInt8.toNat)):=Tx (cx:=⟨λ_=>none,λ_=>none,λ_=>none⟩) (V:=0) (e:=⟨.nil,.nil⟩) a
@[simp]def aeS (a:List am):iG cx V e (.const (.agg a.toArray))=Z (iN qM a) λb=>some (.agg b):=a9
end
@[simp]theorem VH (a:List T):fD (sl a)=none:=by cases a<;>rfl
def oT1 (a:T):ky [a]=a:=a9
def oT2 (a b:T) (c:List T):ky (a::b::c)= .tuple (a::b::c):=a9
def oT0:ky []= .tuple []:=a9
def ajg (a:H):(hr a).low=a.size:=a9
attribute [simp] oT1 oT2 oT0 ajg
@[simp]def aaE (a:H) (d f:jO) (b:Nat) (c:¬b=a.size):il (a.cons d) (a.cons f) b=true:=by unfold il;rw[fH,fH,aq c,aq c];cases a.get b<;>simp
def iw{b c:H}{a:Nat}(d:c.get a=b.get a):il b c a=true:=by unfold il;rw[d];cases b.get a<;>simp
def Fp(d:H)(b a:Nat):Prop:=a=b\/∃c,d.get b=G c/\∃f∈iy c.im,fD f=G a
structure Step(w:Nat)(h h':H):Prop where
 ok:jk h.size h'
 get:∀b,b<h.size->¬Fp h w b->h'.get b=h.get b
 fp:∀b,Fp h' w b->Fp h w b\/h.size<=b
theorem jY{c d:H}{a:Nat}(f:d.get a=c.get a)(b:Nat):Fp d a b=Fp c a b:=by unfold Fp;rw[f]
def Step.refl{d:Nat}{a:H}(b:jk 0 a):Step d a a:=⟨⟨b.hp,b.low,ay _⟩,λ_ _ _=>rfl,λ_ c=> .inl c⟩
def Step.trans{g:Nat}{h d i:H}(a:Step g h d)(b:Step g d i):Step g h i:=by refine⟨⟨b.ok.hp,b.ok.low,aV a.ok.sz b.ok.sz⟩,λc f j=>?_,λc f=>?_⟩;have d:=a.get c f j;have:=a.ok.sz;rw[b.get c J (λk=>(a.fp c k).elim j λk=>absurd k J),d];rcases b.fp c f with k|k;exact a.fp c k;exact .inr (aV a.ok.sz k)
structure Lb(w:Nat)(h:H)(b:Nat)(x:jO):Prop where
 get:h.get b=G x
 nf:¬Fp h w b
def Lb.lt{d:Nat}{b:H}{a:Nat}{f:jO}(c:Lb d b a f):a<b.size:=H.fV c.get
def Lb.ne{a:Nat}{c:H}{b:Nat}{g:jO}(f:Lb a c b g):b≠a:=λd=>f.nf (.inl d)
def Lb.step{d:Nat}{f g:H}{b:Nat}{i:jO}(a:Lb d f b i)(h:Step d f g):Lb d g b i:=
 ⟨h.get b a.lt a.nf▸a.get,λc=>(h.fp b c).elim a.nf λc=>absurd c (iV a.lt)⟩
theorem Step.cons{w:Nat}{a:H}(c:jk 0 a)(i:w<a.size)(b:jO):Step w a (a.cons b):=by
 have f:(a.cons b).get w=a.get w:=by rw[fH,aq J]
 exact⟨⟨(c.cons b).hp,(c.cons b).low,Y⟩,λd h _=>by rw[fH,aq J],λd g=>by rw[jY f]at g;grind⟩
def Lb.new{a:Nat}{h:H}(j:a<h.size)(g:∀b,Fp h a b->b<h.size)(c:jO):Lb a (h.cons c) h.size c:=by
 have i:(h.cons c).get a=h.get a:=by rw[fH,aq J]
 exact⟨Y,λd=>by rw[jY i]at d;have:=g _ d;omega⟩
def Step.uB{c:Nat}{b:H}(k:jk 0 b){a:Nat}{o:jO}(h:Lb c b a o)(d:jO)(g:H)(i:Step c g b)(p:g.size<=a):Step c g (fQ b a d):=by
 have m:(fQ b a d).get c=b.get c:=by rw[fj h.get,aq (bH h.ne)]
 refine⟨⟨(k.put a d).hp,(k.put a d).low,by rw[iB];exact i.ok.sz⟩,λf l n=>?_,λf j=>?_⟩;rw[fj h.get,aq J];exact i.get f l n;rw[jY m]at j;exact i.fp f j
theorem Step.put{b:Nat}{a:H}(g:jk 0 a){x:jO}(f:a.get b=G x)(y:jO)(p:∀h∈iy y.im,∀c,fD h=G c->Fp a b c\/a.size<=c):Step b a (fQ a b y):=by
 refine⟨⟨(g.put b y).hp,(g.put b y).low,by rw[iB];omega⟩,λi m j=>?_,λi d=>?_⟩;rw[fj f,aq (λd=>j (.inl d))];rcases d with rfl|⟨q,k,h,o,l⟩;exact .inl (.inl rfl);rw[fj f,au rfl]at k
 grind
def Step.aeF{c:Nat}{b:H}(h:jk 0 b){a:Nat}{m:jO}(f:b.get a=G m)(j:Fp b c a)(l:a≠c)(d:jO):Step c b (fQ b a d):=by
 have o:(fQ b a d).get c=b.get c:=by rw[fj f,aq (bH l)]
 refine⟨⟨(h.put a d).hp,(h.put a d).low,by rw[iB];omega⟩,λi n k=>?_,λi g=>?_⟩;rw[fj f,aq (λg=>k (by rw[g];exact j))]
 grind [jY]
def Step.Pi{f:Nat}{g c:H}(d:Step f g c){b:H}(h:∀a,b.get a=c.get a)(m:b.size=c.size)(j:jk 0 b):Step f g b:=
 ⟨⟨j.hp,j.low,by rw[m];exact d.ok.sz⟩,λa k l=>by rw[h];exact d.get a k l,λa i=>by rw[jY (h f)]at i;exact d.fp a i⟩
def aab(b:H)(c a:Nat):Fp (hr b) c a=Fp b c a:=jY (iZ b c) a
def Step.hr{f:Nat}{c d:H}(a:Step f (hr c) d):Step f c d:=
 ⟨⟨a.ok.hp,a.ok.low,a.ok.sz⟩,λb g h=>by rw[a.get b g (by rw[aab];exact h),iZ],λb i=>by have:=a.fp b i;rw[aab]at this;exact this⟩
def jk.hr{b:Nat}{a:H}(c:jk b a):jk b (hr a):=⟨by rw[afO];exact c.hp,ay _,c.sz⟩
def Gr(h:H)(d:T)(i:Nat)(a:List T):Prop:=
 (d= .fg [] false/\a=[])\/∃b c j g f,d= .arr b c 0 a.length false/\h.get b=G ⟨i,c,j,g,false,f⟩/\f.take a.length=a
theorem Gr.nil(a:H)(b:Nat):Gr a (.fg [] false) b []:= .inl ⟨rfl,rfl⟩
theorem Gr.je{d:H}{a:T}{f:Nat}{b:List T}(c:Gr d a f b):a.je=true:=by rcases c with⟨rfl,_⟩|⟨g,h,j,i,k,rfl,_⟩<;>rfl
theorem Gr.cells{d:H}{a:T}{f:Nat}{b:List T}(c:Gr d a f b):a.cells=[a]:=by rcases c with⟨rfl,_⟩|⟨g,h,j,i,k,rfl,_⟩<;>rfl
def Gr.mono{d h':H}{b:T}{f:Nat}{c:List T}(i:Gr d b f c)(l:∀a,fD b=G a->h'.get a=d.get a):Gr h' b f c:=by rcases i with⟨rfl,rfl⟩|⟨a,g,m,h,n,rfl,j,k⟩;exact .inl ⟨rfl,rfl⟩;exact .inr ⟨a,g,m,h,n,rfl,l a rfl▸j,k⟩
def Gr.box{g:H}{c:T}{h:Nat}{d:List T}(k:Gr g c h d){b:Nat}(l:fD c=G b):∃a i f j,g.get b=G ⟨h,a,i,f,false,j⟩/\c= .arr b a 0 d.length false:=by rcases k with⟨rfl,_⟩|⟨m,a,i,f,j,rfl,n,o⟩;simp at l;simp_all
def Gr.ne{a:H}{f g:T}{c d:Nat}{h G8:List T}(i:Gr a f c h)(j:Gr a g d G8)(o:c≠d):∀b,fD f=G b->fD g≠some b:=λb k l=>by
 have⟨_,_,_,_,m,_⟩:=i.box k;have⟨_,_,_,_,n,_⟩:=j.box l;rw[m]at n;grind
def Gr.kd{b:H}{c:T}{h:Nat}{a:List T}(d:Gr b c h a):b.kd c=G a:=by
 rcases d with⟨rfl,rfl⟩|⟨j,k,m,l,i,rfl,f,g⟩;rfl;have hl:a.length<=i.length:=by have:=bE List.length g;rw[List.length_take]at this;omega
 rw[iW,f];simp_all
def Gr.len{cx:Ctx}{g:H}{d:T}{h:Nat}{a:List T}(f:Gr g d h a)(b:H)(c:Ty)(i:ab)(o:c.u= .slice i):HX cx b c d=be (.int .i64 a.length) b:=by rcases f with⟨rfl,rfl⟩|⟨j,k,p,l,q,rfl,m,n⟩;simp_all;simp_all
def Gr.CD{c:H}{j:T}{h:Nat}{f:List T}(m:Gr c j h f){te:Ty}(p:te.size=h){i:Nat}(o:i<f.length):∃a b k g d,fD j=G a/\nC c te j i=be (.ptr a b i 0) c/\c.get a=G ⟨h,b,k,g,false,d⟩/\d[i]? =G f[i]:=by
 rcases m with⟨rfl,rfl⟩|⟨a,b,k,g,d,rfl,l,n⟩
 grind
 refine⟨a,b,k,g,d,rfl,?_,l,?_⟩;rw[UO,l];simp_all
 grind
def Gr.qZ{a:H}{d:T}{j:Nat}{h:Type}{f:h->T}{b:List h}(c:Gr a d j (b.map f))(p:∀g,AX a 11 (f g)=G (f g)):TI.qZ a d=G (sl (b.map f)):=by
 have q:=c.kd;rcases c with⟨rfl,i⟩|⟨k,l,r,m,s,rfl,n,o⟩
 rw[i];rfl;simp_all
def Gr.cut{cx:Ctx}{b:H}{i:T}{h:Nat}{a:List T}(m:Gr b i h a){ty te:Ty}{f:ab}(p:ty.u= .slice f)(ht:cx.ty f=G te)(t:te.size=h){n:Nat}(c:n<=a.length)(s:0<a.length):
 ∃j,Im cx b ty i none (some n) none=be j b/\Gr b j h (a.take n)/\fD j=fD i:=by
 rcases m with⟨rfl,rfl⟩|⟨d,g,q,l,r,rfl,k,o⟩
 grind
 refine⟨.arr d g 0 n false,Pe ty te f d g 0 a.length n false _ p ht k c5 c,.inr ⟨d,g,q,l,r,by rw[List.length_take,cP c],k,?_⟩,rfl⟩;rw[List.length_take,cP c,<-o,List.take_take,cP c]
def EU(c:H)(h:T)(j:Nat)(g:List T)(k:T)(d:H):Prop:=∃a f l i,k= .arr a f 0 g.length false/\d.get a=G ⟨j,f,l,i,false,g⟩/\
 (fD h=G a\/(fD h=none/\a=c.size))/\(∀b,b≠a->b<c.size->d.get b=c.get b)/\jk c.size d
def EU.gr{j:H}{l:T}{c:Nat}{a:List T}{d:T}{b:H}(f:EU j l c a d b):Gr b d c a:=by obtain⟨g,h,m,i,rfl,k,_⟩:=f;exact .inr ⟨g,h,m,i,a,rfl,k,aI⟩
def EU.set{i:H}{m:T}{d b c h:Nat}{f:Bool}{a:List T}{g:H}(o:EU i m d a (.arr b c 0 a.length false) g)(k:g.get b=G ⟨d,c,h,f,false,a⟩)(l:Nat)(n:T):
 EU i m d (a.set l n) (.arr b c 0 a.length false) (fQ g b ⟨d,c,h+1,f,false,a.set l n⟩):=by
 obtain⟨s,u,y,v,j,w,p,x,q⟩:=o;simp[T.arr.injEq,and_true]at j;obtain⟨rfl,rfl⟩:=j;exact⟨b,c,h+1,f,by rw[dG],by rw[fj k,au rfl],p,λt r hl=>by rw[fj k,aq r];grind,q.put _ _⟩
def Gr.app{cx:Ctx}{a:H}{j:T}{f:Nat}{d:List T}(C:Gr a j f d)(k:jk 0 a){q r l:ab}{y z g:Ty}(D:cx.ty q=G y)(E:y.u= .slice l)(F:cx.ty l=G g)(I:cx.ty r=G z)(K:z.u= .slice l)(v:g.size=f)(N:1<=g.bytes)
 {x:T} {xs:List T} (O:a.kd x=G xs) (w:∀e∈xs,e.cells.length=f) (V:xs≠ []) (U:(d.length+xs.length)*g.bytes<=70368744177664):
 ∃A t,jE cx a q r j x=be A t/\EU a j f (d++xs) A t:=by
 have L:jE cx a q r j x=kJ (a.append g.size g.bytes j xs):=by
  unfold jE tu pP;rw[D,fw,I,fw];simp[E,F,K,O,fw];rw[v,nD w,iP]
 rw[L,v];obtain⟨b,c,rfl⟩:∃b c,xs=b::c:=by cases xs with|nil=>grind|cons b c=>simp
 rcases C with⟨rfl,rfl⟩|⟨h,i,s,S,R,rfl,o,Q⟩;refine⟨_,a.cons ⟨f,0,0,false,false,b::c⟩,?_,a.size,0,0,false,rfl,Y,.inr ⟨rfl,rfl⟩,λB m _=>by rw[fH,aq m],(k.cons _).hp,(k.cons _).low,Y⟩;show kJ (a.ku f g.bytes [] (b::c))=_;rw[sa w N c5];rfl;refine⟨.arr h (i+1) 0 (d++b::c).length false,fQ a h ⟨f,i+1,s+1,false,false,d++b::c⟩,?_,h,i+1,s+1,false,rfl,by rw[fj o,au rfl],.inl rfl,λB m _=>by rw[fj o,aq m],(k.put _ _).hp,(k.put _ _).low,by rw[iB];omega⟩;show kJ (a.o6 f g.bytes h i d.length (b::c))=_;have hl:d.length<=R.length:=by have:=bE List.length Q;rw[List.length_take]at this;omega
 have:a.o6 f g.bytes h i d.length (b::c)=G (.arr h (i+1) 0 (d++b::c).length false,fQ a h ⟨f,i+1,s+1,false,false,d++b::c⟩):=by
  unfold H.o6;rw[o];simp_all[zj,nD,jx,kQ,sd,qB,fw,aT]
 rw[this];rfl
def Xt(b:H)(d:T)(h:Nat)(g:List T)(f:T)(c:H):Prop:=Gr c f h g/\(∀a,a<b.size->fD d≠some a->c.get a=b.get a)/\(∀a,fD f=G a->fD d=G a\/b.size<=a)/\jk b.size c
def EU.xt{c:H}{g:T}{f:Nat}{b:List T}{h:T}{d:H}(a:EU c g f b h d):Xt c g f b h d:=by
 have j:=a.gr;obtain⟨m,n,s,e,rfl,o,p,q,k⟩:=a;refine⟨j,λi l r=>?_,λi l=>?_,k⟩
 grind
 grind [id,aw,D4]
def Xt.refl{a:H}{b:T}{f:Nat}{c:List T}(g:Gr a b f c)(d:jk 0 a):Xt a b f c b a:=⟨g,λ_ _ _=>rfl,λ_ h=> .inl h,d.hp,d.low,ay _⟩
def Xt.trans{g h i:H}{l m n:T}{f:Nat}{q G8:List T}(a:Xt g l f q m h)(b:Xt h m f G8 n i):Xt g l f G8 n i:=by
 obtain⟨_,a2,a3,a4⟩:=a;obtain⟨o,p,s,d⟩:=b;have:=a4.sz;refine⟨o,λc j k=>?_,λc j=>?_,d.hp,d.low,aV a4.sz d.sz⟩;rw[p c J (λr=>(a3 c r).elim k (λt=>by omega)),a2 c j k]
 grind
theorem Xt.cons{c d:H}{g h:T}{f:Nat}{b:List T}(i:Xt c g f b h d)(a:jO):Xt c g f b h (d.cons a):=by obtain⟨a1,a2,a3,a4⟩:=i;have:=a4.sz;refine⟨a1.mono λl j=>?_,λm n o=>?_,a3,(a4.cons a).hp,(a4.cons a).low,(a4.cons a).sz⟩;have⟨_,_,_,_,k,_⟩:=a1.box j;have:=H.fV k;rw[fH,aq J];rw[fH,aq J];grind
def Ar{b:Nat}{d f:H}{k n:T}{w y N i:Nat}{D:Bool}{C:List T}{p:List T}(bn:jk 0 d)(R:∀a,Fp d b a->a<d.size)(m:d.get b=G ⟨y,0,N,D,false,[.agg p]⟩)(al:p[i]? =G k)(aN:w≠y)
 {Q:List T} (X:Gr d k w Q) (U:Xt d k w C n f):f.get b=d.get b/\∀g,g=(⟨y,0,N+1,D,false,[.agg (p.set i n)]⟩:jO)->
  Step b d (fQ f b g)/\(∀a,Fp (fQ f b g) b a->a<(fQ f b g).size)/\Gr (fQ f b g) n w C/\
   ∀r x G8,r∈p->Gr d r x G8->(∀a,fD k=G a->fD r≠some a)->x≠y->Gr (fQ f b g) r x G8/\∀a,fD n=G a->fD r≠some a:=by
 have an:=H.fV m;have a7:=aB al;obtain⟨F,B,ao,S⟩:=U;have Z:∀a,fD k=G a->a≠b:=λa c q=>by
  subst q;have⟨_,_,_,_,j,_⟩:=X.box c;rw[m]at j;grind
 have ar:Step b d f/\f.get b=d.get b/\(∀a,fD n=G a->a≠b/\(fD k=G a\/d.size<=a))/\(∀a,a≠b->fD k≠some a->a<d.size->f.get a=d.get a):=by
  have K:=B b an λj=>Z b j rfl;refine⟨⟨S,λo l A=>B o l λj=>A (.inr ⟨_,m,k,by grind [T.cells,iy],j⟩),λo l=>by rw[jY K]at l;grind⟩,K,λo l=>⟨?_,ao o l⟩,λo _ l hl=>B o hl l⟩
  grind
 obtain⟨v,E,O,bi⟩:=ar;refine⟨E,λg a8=>?_⟩;have s:=E.trans m;have ae:(fQ f b g).get b=G g:=by rw[fj s,au rfl]
 have W:∀h∈iy g.im,h∈p\/h=n:=by
  grind [T.cells,iy,bP]
 have aA:∀h∈p,∀a,fD h=G a->Fp d b a:=λh t a c=> .inr ⟨_,m,h,by grind [T.cells,iy],c⟩;have ap:Step b d (fQ f b g):=by
  have L:jk 0 f:=⟨v.ok.hp,v.ok.low,az _⟩;refine⟨⟨(L.put b g).hp,(L.put b g).low,by rw[iB];exact v.ok.sz⟩,λa c A=>?_,λa c=>?_⟩;rw[fj s,aq (λq=>A (.inl q))];grind;rcases c with rfl|⟨z,u,h,t,c⟩;exact .inl (.inl rfl)
  grind
 have aX:∀a,fD n=G a->a<f.size:=λa c=>by have⟨_,_,_,_,j,_⟩:=F.box c;exact H.fV j
 refine⟨ap,λa c=>?_,?_,λr x G8 av I ax aE=>⟨?_,λa c q=>?_⟩⟩;rw[iB];rcases c with rfl|⟨z,u,h,t,c⟩
 exact H.fV s;rw[ae]at u;cases u;rcases W h t with t|rfl
 have:=R a (.inr ⟨_,m,h,by grind [T.cells,iy],c⟩);have:=v.ok.sz;omega
 grind
 exact F.mono λa c=>by rw[fj s,aq (O a c).1]
 refine I.mono λa c=>?_;have⟨_,_,_,_,j,_⟩:=I.box c;have V:a≠b:=λq=>by subst q;rw[m]at j;grind
 rw[fj s,aq V]
 grind
 grind
section
variable {P:ai}{cx:Ctx}{tb:iq}{V:Nat}
def agx{c:aj}{a:mM}{b:List T}{d:H}{l:af Oper}{j:aa Tmp}{k:List Oper}{n m:iM}{i:jH}(o:a.Ok P cx c)(ht:tb.h c=G a)(p:a.pre b d)
 (r:∀g f,a.post b d g f->XK (some (g,f)) cx (r7 P cx tb) V l j k n m i):XK (hl P cx tb c b d) cx (r7 P cx tb) V l j k n m i:=by
 have⟨g,f,e,q⟩:=PG ht o p;rw[e];grind
def acz{d:aj}{b:mM}{c:List T}{a:H}{q:af Oper}{j:List (Nat×Nat)}{k:aa Tmp}{p:Op}{n:List Oper}{m:Nat}{o:List (Nat×Nat)}{l:List (Nat×H×H)}{s r:iM}{i:jH}(t:b.Ok P cx d)(ht:tb.h d=G b)(u:b.pre c a)
 (w:∀g f,b.post c a g f->V9 (some (g,f)) cx (r7 P cx tb) V q j k p n m o l s r a i):V9 (hl P cx tb d c a) cx (r7 P cx tb) V q j k p n m o l s r a i:=by
 have⟨g,f,e,v⟩:=PG ht t u;rw[e];grind
def hlB{c:aj}{d:mM}(m:d.Ok P cx c)(n:∀b a g f,d.post b a g f->f=a/\MR g):∃k:List T->H->Bool,∀{tb:iq},tb.h c=G d->∀b a,d.pre b a->hl P cx tb c b a=G (.bool (k b a),a):=by
 let i:iq:=⟨λ_=>none,λ_=>some d⟩
 refine⟨λb a=>match hl P cx i c b a with|some (.bool j,_)=>j|_=>false,λ{tb} ht b a o=>?_⟩;have l:hl P cx tb c b a=hl P cx i c b a:=by unfold hl;rw[ht]
 have⟨g,f,e,p⟩:=PG (tb:=i) rfl m o;obtain⟨rfl,j,rfl⟩:=n _ _ _ _ p;rw[l]
 grind
def hlI{c:aj}{d:mM}(m:d.Ok P cx c)(n:∀b a g f,d.post b a g f->f=a/\IU g):∃k:List T->H->Int,∀{tb:iq},tb.h c=G d->∀b a,d.pre b a->hl P cx tb c b a=G (.int .i64 (k b a),a):=by
 let i:iq:=⟨λ_=>none,λ_=>some d⟩
 refine⟨λb a=>match hl P cx i c b a with|some (.int _ j,_)=>j|_=>0,λ{tb} ht b a o=>?_⟩;have l:hl P cx tb c b a=hl P cx i c b a:=by unfold hl;rw[ht]
 have⟨g,f,e,p⟩:=PG (tb:=i) rfl m o;obtain⟨rfl,j,rfl⟩:=n _ _ _ _ p;rw[l]
 grind
end
def mV(b a:H):H:=⟨a.size,if a.low<b.low then a.low else b.low,a.iA⟩
def iJ(c b:H)(a:Nat):(mV c b).get a=b.get a:=H.vj b _ a
@[simp]def xr (b a:H):(mV b a).size=a.size:=a9
def jk.out{c:Nat}{b:H}(a:jk c b)(h:H):jk c (mV h b):=⟨a.hp,by have:=a.low;unfold mV;simp only;split<;>omega,a.sz⟩
def Step.out{c:Nat}{h a:H}(b:Step c (TI.hr h) a):Step c h (mV h a):=b.hr.Pi (iJ h a) rfl ⟨(b.ok.out h).hp,(b.ok.out h).low,az _⟩
def Gr.out{a:H}{d:T}{c:Nat}{b:List T}(g:Gr a d c b)(h:H):Gr (mV h a) d c b:=g.mono λf _=>iJ h a f
def kW(ι:Type)(pre:ι->List T->H->Prop)(post:ι->List T->H->T->H->Prop):mM:=⟨λa b=>∃c,pre c a b,λa b f d=>∀c,pre c a b->post c a b f d⟩
section
variable {P:ai}{cx:Ctx}{V:Nat}{ι:Type}{pre:ι->List T->H->Prop}{post:ι->List T->H->T->H->Prop}
def wP{tb:iq}(I:P.follows .mixedOrders)(j8:jR P cx){s:aj}{d:Func}{r:DL}(k:Ea P cx s d V r)(l:List T->H->Nat)(K:∀c p a,pre c p a->p.length<=d.ntmps)
 (Q:∀c b a,pre c b a->∀y,oz y 0 b->W (kN cx (r7 P cx tb) (l b a) V r (d.body.getD .skip) ⟨y,.nil⟩ (hr a)) (AJ cx V d.results.toList λn C=>post c b a (ky n) (mV a C))):(kW ι pre post).Ok P cx s:=by
 intro b a ⟨S,L⟩;have w:∀c,pre c b a->∃i h,wM cx (r7 P cx tb) (l b a) d V true b a=G (i,h)/\post c b a i h:=by
  intro c j;have⟨x,O,_,E⟩:=o7 V d.ntmps 0 b (K c b a j);have⟨Z,e,t,g,R,n,N,m⟩:=Hz (Q c b a j x E);have g:=uj _ k.dr _ _ _ g;have⟨A,f⟩:=C1 k.ok;rw[f]at g;refine⟨_,_,?_,m⟩;unfold wM;rw[f];obtain⟨o,v,q⟩:=a;simp only;rw[O,fw];have g:lV cx (r7 P cx tb) (l b ⟨o,v,q⟩) V A ⟨x,.nil⟩ ⟨o,o,q⟩=G (Z,e,t):=g;rw[g,fw,nV];rcases R with rfl|rfl<;>(simp only;rw[(rL N),fw];exact(zy v (ky n) t))
 have⟨i,h,u,_⟩:=w S L;refine⟨i,h,λc j=>?_,λz X ae B U D=>sP (F:=⟨d,V,true,none⟩) I j8 k.at_ k.ok _ (Hk P cx tb) (l b a) b a i h u z X ae B U D⟩;have⟨an,al,f,m⟩:=w c j;rw[u]at f;simp[aw,aH]at f;rw[f.1,f.2];exact m
def jy{tb:iq}{f:aj}{d:List T}{g:H}{m:af Oper}{j:aa Tmp}{l:List Oper}{o n:iM}{i:jH}(p:(kW ι pre post).Ok P cx f)(ht:tb.h f=G (kW ι pre post))(b:ι)(k:pre b d g)
 (r:∀c a,post b d g c a->XK (some (c,a)) cx (r7 P cx tb) V m j l o n i):XK (hl P cx tb f d g) cx (r7 P cx tb) V m j l o n i:=
 agx p ht ⟨b,k⟩ λc a q=>r c a (q b k)
def mZ{tb:iq}{g:aj}{f:List T}{a:H}{r:af Oper}{j:List (Nat×Nat)}{k:aa Tmp}{q:Op}{o:List Oper}{n:Nat}{p:List (Nat×Nat)}{l:List (Nat×H×H)}{t s:iM}{i:jH}(u:(kW ι pre post).Ok P cx g)(ht:tb.h g=G (kW ι pre post))(c:ι)(m:pre c f a)
 (w:∀d b,post c f a d b->V9 (some (d,b)) cx (r7 P cx tb) V r j k q o n p l t s a i):V9 (hl P cx tb g f a) cx (r7 P cx tb) V r j k q o n p l t s a i:=
 acz u ht ⟨c,m⟩ λd b v=>w d b (v c m)
def AH(g:ι->Nat){f:aj}(step:∀c,(kW ι (λa d b=>pre a d b/\g a<c) post).Ok P cx f->(kW ι (λa d b=>pre a d b/\g a<c+1) post).Ok P cx f)(c:Nat):(kW ι (λa d b=>pre a d b/\g a<c) post).Ok P cx f:=by
 induction c with
 |zero=>intro h b ⟨a,_,i⟩;omega
 |succ c j=>simp_all
end
def Jz{d j q:Nat}{n:Bool}{c:H}{l cells':List T}(w:jk 0 c)(x:∀b,Fp c d b->b<c.size)(g:c.get d=G ⟨j,0,q,n,false,[.agg l]⟩)(t:∀a∈cells',a∈l\/fD a=none\/∃p∈l,fD a=fD p):
 ∀h,h=(⟨j,0,q+1,n,false,[.agg cells']⟩:jO)->Step d c (fQ c d h)/\(∀b,Fp (fQ c d h) d b->b<(fQ c d h).size)/\(fQ c d h).get d=G h/\∀a i m,Gr c a i m->i≠j->Gr (fQ c d h) a i m:=by
 rintro h rfl;have u:∀a∈cells',∀b,fD a=G b->Fp c d b:=λa o b f=>by
  rcases t a o with k|k|⟨p,z,k⟩;exact .inr ⟨_,g,a,by grind [T.cells,iy],f⟩;rw[k]at f;grind;exact .inr ⟨_,g,p,by grind [T.cells,iy],k▸f⟩
 refine⟨(Step.put w g ⟨j,0,q+1,n,false,[.agg cells']⟩ (λa o b f=> .inl (u a (by grind [T.cells,iy]) b f))),λb f=>?_,by rw[fj g,au rfl],λa i m r y=>r.mono λb s=>?_⟩;rw[iB];rcases f with rfl|⟨A,v,a,o,f⟩
 exact H.fV g;rw[fj g,au rfl]at v
 grind [aw,T.cells,iy]
 have⟨_,_,_,_,f,_⟩:=r.box s;rw[fj g,aq (λk=>by subst k;rw[g]at f;grind)]
def Fld(c:H)(d:Nat)(a:T×aa (Nat×List T)):Prop:=match a.2 with
 |none=>fD a.1=none
 |some b=>Gr c a.1 b.1 b.2/\b.1≠d
structure rD(h:H)(w szw ver:Nat)(F:List (T×aa (Nat×List T))):Prop where
 ok:jk 0 h
 get:h.get w=G ⟨szw,0,ver,true,false,[.agg (F.map (·.1))]⟩
 fld:∀f∈F,Fld h szw f
 dis:∀(j k:Nat),j≠k->∀a b,F[j]? =G a->F[k]? =G b->∀c,fD a.1=G c->fD b.1≠some c
def rD.lt{a:H}{b f g:Nat}{c:List (T×aa (Nat×List T))}(d:rD a b f g c):b<a.size:=H.fV d.get
def rD.fp{b:H}{h m n:Nat}{i:List (T×aa (Nat×List T))}(d:rD b h m n i):∀a,Fp b h a->a<b.size:=by rintro a (rfl|⟨p,c,o,g,f⟩);exact d.lt;rw[d.get]at c;cases c;simp only[iy,bh,df,cq,T.cells]at g;obtain⟨j,k,rfl⟩:=List.mem_map.1 g;have:=d.fld j k;unfold Fld at this;split at this;rw[this]at f;grind;have⟨_,_,_,_,l,_⟩:=this.1.box f;exact H.fV l
def rD.gr{c:H}{l j k:Nat}{a:List (T×aa (Nat×List T))}(i:rD c l j k a){f:T}{d:Nat}{b:List T}(h:Nat)(g:a[h]? =G (f,some (d,b))):Gr c f d b:=(i.fld _ (aB g)).1
def rD.MT{c:H}{d i j:Nat}{a:List (T×aa (Nat×List T))}(h:rD c d i j a){f:T×aa (Nat×List T)}(k:f∈a){b:Nat}(g:fD f.1=G b):Fp c d b:= .inr ⟨_,h.get,f.1,by simp[iy,bh,df,cq,T.cells];grind,g⟩
def rD.step{d f:H}{c j k:Nat}{g:List (T×aa (Nat×List T))}(b:rD d c j k g)(n:jk 0 f)(i:∀a,Fp d c a->f.get a=d.get a):rD f c j k g:=by refine⟨n,i c (.inl rfl)▸b.get,λl h=>?_,b.dis⟩;have:=b.fld l h;unfold Fld at this|-;split at this;omega;exact⟨this.1.mono λa m=>i a (b.MT h m),this.2⟩
theorem rD.cons{c:H}{w d f:Nat}{b:List (T×aa (Nat×List T))}(a:rD c w d f b)(g:jO):rD (c.cons g) w d f b:=a.step (a.ok.cons g) λh i=>by rw[fH,aq (iV (a.fp h i))]
def rD.uB{b:H}{c h i:Nat}{d:List (T×aa (Nat×List T))}(f:rD b c h i d){a:Nat}{m:jO}(g:Lb c b a m)(j:jO):rD (fQ b a j) c h i d:=f.step (f.ok.put a j) λn k=>by rw[fj g.get,aq (λl=>g.nf (by rw[<-l];exact k))]
def rD.aip{o b:H}{a d n m:Nat}{f:List (T×aa (Nat×List T))}(p:rD o a d n f)(i:T×aa (Nat×List T)){j:jO}(w:j=⟨d,0,n+1,true,false,[.agg ((f.set m i).map (·.1))]⟩)(t:b.get a=o.get a)(y:jk 0 b)
 (z:Fld (fQ b a j) d i) (A:∀(c:Nat) h,c≠m->f[c]? =G h->Fld (fQ b a j) d h/\(∀g,fD i.1=G g->fD h.1≠some g)):rD (fQ b a j) a d (n+1) (f.set m i):=by
 refine⟨y.put _ _,by rw[fj (t.trans p.get),au rfl,w],λh s=>?_,λc x v q r k l g=>?_⟩;have⟨c,u⟩:=cY s;rw[cE]at u
 grind
 rw[cE]at k l;split at k
 grind
 split at l
 grind
 exact p.dis c x v q r k l g
def rD.app{i d:H}{b k l j:Nat}{c:List (T×aa (Nat×List T))}(a:rD i b k l c){t u:T}{E m:List T}(g:Nat)(r:c[g]? =G (t,some (j,E)))(v:Xt i t j m u d):
 d.get b=G ⟨k,0,l,true,false,[.agg (c.map (·.1))]⟩/\il i d b/\∀h,h=(⟨k,0,l+1,true,false,[.agg ((c.set g (u,some (j,m))).map (·.1))]⟩:jO)->Step b i (fQ d b h)/\rD (fQ d b h) b k (l+1) (c.set g (u,some (j,m))):=by
 have q:=a.fld _ (aB r);have N:(c.map (·.1))[g]? =G t:=by rw[bw,r];rfl
 have⟨s,V⟩:=Ar a.ok a.fp a.get N q.2 q.1 v;refine⟨s.trans a.get,iw s,λh z=>?_⟩;have⟨W,o,K,R⟩:=V h (by rw[z,aY]);have S:jk 0 d:=by obtain⟨_,_,_,A⟩:=v;exact⟨A.hp,A.low,az _⟩
 refine⟨W,a.aip _ z s S ⟨K,q.2⟩ λQ o O w=>?_⟩;have y:=aB w;have f:=a.fld o y;obtain⟨I,F⟩:=o;rcases F with _|p
 exact⟨f,λX _ U=>by rw[f]at U;grind⟩;have⟨C,D⟩:=R I p.1 p.2 (List.mem_map_of_mem y) f.1 (λB L=>a.dis g Q (bH O) _ _ r w B L) f.2;exact⟨⟨C,f.2⟩,D⟩
def rD.elem{l:H}{u L N c h j q:Nat}{k:Bool}{r:List T}{d:List (T×aa (Nat×List T))}(a:rD l u L N d){o:T}{s:List T}(i:Nat)(B:d[i]? =G (o,some (c,s)))(m:fD o=G h)(b:l.get h=G ⟨c,j,q,k,false,r⟩)(g:Nat)(x:T):
 Step u l (fQ l h ⟨c,j,q+1,k,false,r.set g x⟩)/\rD (fQ l h ⟨c,j,q+1,k,false,r.set g x⟩) u L N (d.set i (o,some (c,s.set g x))):=by
 have y:=a.fld _ (aB B);have F:h≠u:=λK=>by subst K;rw[a.get]at b;simp at b;exact y.2 b.1.symm
 have ap:(d.set i (o,some (c,s.set g x))).map (·.1)=d.map (·.1):=by
  rw[aY];simp only;apply dB;intro n;rw[cE]
  grind
 refine⟨(Step.aeF a.ok b (a.MT (aB B) m) F ⟨c,j,q+1,k,false,r.set g x⟩),a.ok.put _ _,by rw[fj b,aq (bH F),ap];exact a.get,λE ao=>?_,λn I ar O v Z z=>?_⟩;obtain⟨n,f⟩:=cY ao;rw[cE]at f;split at f;split at f;cases f;refine⟨?_,y.2⟩;rcases y.1 with⟨rfl,t⟩|⟨R,av,aE,ax,aN,rfl,t,X⟩
 simp at m;simp only[D4,aw]at m;subst m;rw[b]at t;simp only[aw,jO.mk.injEq]at t;obtain⟨_,rfl,rfl,rfl,_,rfl⟩:=t;exact .inr ⟨R,j,q+1,k,r.set g x,by rw[dG],by rw[fj b,au rfl],by rw[dG,List.take_set,X]⟩
 grind
 rename_i K;have A:=a.fld E (aB f);obtain⟨aA,W⟩:=E;rcases W with _|p
 exact A;exact⟨A.1.mono λv z=>by rw[fj b,aq (λe=>by subst e;exact a.dis i n J _ _ B f v m z)],A.2⟩;have:∀(C:Nat) (w:T×aa (Nat×List T)),(d.set i (o,some (c,s.set g x)))[C]? =G w->∃D,d[C]? =G D/\D.1=w.1:=by
  intro C w an;rw[cE]at an
  grind
 obtain⟨Q,ae,U⟩:=this n O Z;obtain⟨S,al,V⟩:=this I v z;rw[<-U,<-V];exact a.dis n I ar Q S ae al
def Gr.fz{b:H}{f:T}{k:Nat}{h:Type}{a:h->T}{c:List h}(d:Gr b f k (c.map a))(j:∀g,AX b 11 (a g)=G (a g)):TI.fz b f=G (sl (c.map a)):=by
 have:=d.qZ j;rcases d with⟨rfl,i⟩|⟨l,m,q,n,r,rfl,o,p⟩
 rw[i];rfl;simp_all
def Xt.out{h b:H}{d f:T}{c:Nat}{a:List T}(g:Xt (TI.hr h) d c a f b):Xt h d c a f (mV h b):=by obtain⟨a1,a2,a3,a4⟩:=g;exact⟨a1.out h,λi j k=>by rw[iJ,a2 i j k,iZ],a3,(a4.out h).hp,(a4.out h).low,a4.sz⟩
def Gr.oy{cx:Ctx}{b:H}{j:T}{a:Nat}{k:Type}{f:k->T}{h:List k}(s:Gr b j a (h.map f))(o:jk 0 b){i l:ab}{p d:Ty}(m:cx.ty i=G p)(n:p.u= .slice l)(t:cx.ty l=G d)(y:d.size=a)(v:1<=d.bytes)(w:∀x,Oq (f x)=a)(x:k)(z:(h.length+1)*d.bytes<=70368744177664):
 ∃g c,jE cx (b.cons ⟨a,0,0,true,false,[f x]⟩) i i j (.arr b.size 0 0 1 false)=be g c/\Xt b j a ((h++[x]).map f) g c:=by
 have q:=(Xt.refl s o).cons ⟨a,0,0,true,false,[f x]⟩;have⟨g,c,e,r⟩:=Gr.app (cx:=cx) q.1 (o.cons _) (x:= .arr b.size 0 0 1 false) (xs:=[f x]) m n t m n y v d4 (iC (show(f x).cells.length=a from w x)) Y c5;exact⟨g,c,e,List.map_append▸q.trans r.xt⟩
end
def rD.start{h:H}{w szw ver:Nat}{F:List (T×aa (Nat×List T))}(o:jk 0 h)(g:h.get w=G ⟨szw,0,ver,true,false,[.agg (F.map (·.1))]⟩)
 (f:∀a∈F,(a.2=none/\fD a.1=none)\/(a.1= .fg [] false/\∃e,a.2=G (e,[])/\e≠szw)):rD h w szw ver F/\∀c,Fp h w c->c=w:=by
 have i:∀a∈F,fD a.1=none:=λa h=>by
  rcases f a h with k|k;exact k.2;rw[k.1];rfl
 refine⟨⟨o,g,λa h=>?_,λs k _ l c m r q b=>by rw[i l (aB m)]at b;simp at b⟩,λc b=>?_⟩;obtain⟨p,t⟩:=a;rcases f _ h with⟨rfl,k⟩|⟨rfl,e,rfl,k⟩;exact k;exact⟨Gr.nil _ _,k⟩;rcases b with rfl|⟨u,d,p,j,b⟩;rfl;rw[g]at d;cases d;simp only[iy,bh,df,cq,T.cells]at j;obtain⟨a,n,rfl⟩:=List.mem_map.1 j;rw[i a n]at b;simp at b
def rD.other{b e:H}{d l m g:Nat}{i:List (T×aa (Nat×List T))}(h:rD b d l m i)(j:∀a,Fp b d a->¬Fp b g a)(f:Step g b e):rD e d l m i/\∀a,Fp e d a->¬Fp e g a:=by
 have k:∀a,Fp b d a->e.get a=b.get a:=λa c=>f.get a (h.fp a c) (j a c);refine⟨h.step ⟨f.ok.hp,f.ok.low,az _⟩ k,λa c n=>?_⟩;rw[jY (k d (.inl rfl))]at c;rcases f.fp a n with q|q
 exact j a c q;have:=h.fp a c;omega
structure Sm(b:Nat)(h h':H):Prop where
 ok:jk 0 h'
 size:h'.size=h.size
 get:∀c,c≠b->h'.get c=h.get c
def Sm.refl{b:Nat}{a:H}(c:jk 0 a):Sm b a a:=⟨c,rfl,λ_ _=>rfl⟩
theorem Sm.put{a:Nat}{d b:H}(c:Sm a d b){x:jO}(g:b.get a=G x)(y:jO):Sm a d (fQ b a y):=⟨c.ok.put a y,by rw[iB];exact c.size,λf e=>by rw[fj g,aq e];exact c.get f e⟩
def jw.ft{b c:H}{Vq V':Nat->Prop}{d:Nat}{e f:List T}(g:jw (FT b Vq d) e f)(h:∀a,Vq a->V' a/\c.get a=b.get a):jw (FT c V' d) e f:=g.imp λ_ _ i=>i.mono h
def Gr.JT{a:H}{Vq:Nat->Prop}{g:T}{k d:Nat}{c e:List T}(f:Gr a g k c)(h:d<=11)(b:jw (FT a Vq d) c e):TI.fz a g=G (sl e):=by
 have i:=f.kd;rcases f with⟨rfl,rfl⟩|⟨l,m,q,n,r,rfl,o,p⟩
 cases b;rfl;rw[yh,i,fw,(uf (b.imp λ_ _ j=>(j.deep h).AX))];rfl
section
def jw.left{a f:Type}{b:a->f->Prop}{d:List a}{j:List f}(h:jw b d j){e:a}(c:e∈d):∃k,b e k:=by
 induction h with
 |nil=>simp at c
 |cons g _ i=>
  rcases List.mem_cons.1 c with rfl|q;exact⟨_,g⟩;exact i q
def FT.fzN{a:H}{z:Nat->Prop}{k:Nat}(E:∀c,z c->k<=c):∀{b:Nat} {i y:T},FT a z b i y->freeze a k b i=freeze a 0 b i:=by
 intro b;induction b with
 |zero=>intro i y v;exact v.elim
 |succ b C=>
  intro i y v;rcases v with⟨A,B,rfl⟩|⟨c,l,h,g,s,n,r,rfl,F,f,t,rfl⟩|⟨p,O,rfl,t,rfl⟩
  rw[wL a k b i A B,wL a 0 b i A B];have u:iN (freeze a k b) n=iN (freeze a 0 b) n:=qk λj w=>by
   have⟨N,x⟩:=t.left w;exact C x
  have D:∀q,freeze a q (b+1) (.arr c l h g s)=iX (Nat.ble q c) (Z (a.get c) λj=>jO.casesOn j λ_ m _ exact o e=>
   iX (Nat.beq m l) (Bool.casesOn o (Z (Z (lJ h e) λd=>takeN g d) λn=>Z (iN (freeze a q b) n) λr=>
    List.casesOn r (List.casesOn e (Bool.casesOn exact (some .jf) (some (.fg [] false))) λ_ _=>some .jf) λ_ _=>some (.fg r s)) none)):=λq=>rfl
  rw[D,D];have K:a.kd (.arr c l h g s)=Z (a.get c) λj=>jO.casesOn j λ_ m _ _ o e=>iX (Nat.beq m l) (Bool.casesOn o (Z (lJ h e) λd=>takeN g d) none):=rfl;rw[K]at f;rw[cQ (E c F),cQ (az c)];show(Z (a.get c) _)=(Z (a.get c) _);rcases I:a.get c with _|j
  rfl;rw[I]at f;obtain⟨R,m,S,Q,o,e⟩:=j;simp only[fw]at f|-;cases L:Nat.beq m l;rfl;rw[L]at f;cases o;have f:(Z (lJ h e) λd=>takeN g d)=G n:=f;show(Z (Z (lJ h e) λd=>takeN g d) _)=(Z (Z (lJ h e) λd=>takeN g d) _);rw[f,fw,fw,u];rfl;have u:iN (freeze a k b) p=iN (freeze a 0 b) p:=qk λj w=>by
   have⟨N,x⟩:=t.left w;exact C x
  show(Z (iN (freeze a k b) p) _)=(Z (iN (freeze a 0 b) p) _);rw[u]
def FT.top{b:H}{q:Nat->Prop}{o f:Nat}(I:f<=11)(r:∀a,q a->o<=a){c e:List T}(s:jw (FT b q f) c e):∃h,kI b o (.agg c)=G h/\cn h= .agg e:=by
 have v:iN (kh b o) c=iN (kh b 0) c:=qk λB y=>by
  have⟨K,t⟩:=s.left y;have k:=(t.deep (show f<=12 by omega)).fzN r;rcases(t.deep (show f<=12 by omega))with⟨l,m,rfl⟩|⟨a,i,p,n,j,D,E,rfl,x,F,w,rfl⟩|⟨c,e,rfl,w,rfl⟩;cases B<;>first|exact k|(simp[lr]at l)
  have u:∀d,kh b d (.arr a i p n j)=(Bool.casesOn (Nat.ble d a) (some (.arr a i p n j)) (freeze b d 12 (.arr a i p n j)):aa T):=λd=>rfl;rw[u,u,cQ (r a x),cQ (az a),k];exact k
 have g:qZ b (.agg c)=G (.agg e):=by
  rw[PL,uf (s.imp λC a d=>(d.deep (show f<=12 by omega)).fz)];rfl
 have g:(Z (Z (iN (kh b 0) c) λz=>some (T.agg z)) λA=>some (cn A))=G (.agg e):=g;rw[<-v]at g;have⟨h,l,m⟩:=eQ.1 g;simp[aw]at m;exact⟨h,l,m⟩
def Lb.mO{b:Nat}{c d:H}{a:Nat}{f:jO}(e:Lb b c a f)(h:d.get b=c.get b)(g:d.get a=c.get a):Lb b d a f:=⟨by rw[g];exact e.get,by rw[jY h];exact e.nf⟩
def DZ(a b:H):H:=⟨a.size,(mV a b).low,(mV a b).iA.drop ((mV a b).size-a.size)⟩
def Hh{h a:H}(d:Hp a)(e:h.size<=a.size){b:Nat}(c:b<h.size):(DZ h a).get b=a.get b:=
 (L5 (h:=mV h a) (by unfold Hp at*;exact d) e c).trans (iJ h a b)
def jk.cut{a b:H}(c:jk 0 a)(d:Hp b)(e:a.size<=b.size):jk 0 (DZ a b):=
 ⟨by unfold Hp at*;unfold DZ mV;simp;omega,by have:=c.low;unfold DZ mV;simp only;split<;>omega,az _⟩
def OW(a:H)(f:T)(b:H)(post:T->H->Prop):Prop:=
 Hp b/\a.size<=b.size/\(∀c e,c<a.size->b.get c=G e->b.get c=a.get c\/∀g∈iy e.im,tF a.size g)/\∃d,kI b a.size f=G d/\post (cn d) (DZ a b)
section
variable {P:ai}{cx:Ctx}{V:Nat}{ι:Type}{pre:ι->List T->H->Prop}{post:ι->List T->H->T->H->Prop}
def Wv{tb:iq}(U:P.follows .mixedOrders)(j8:jR P cx){m:aj}{g:Func}{t:DL}(j:Ea P cx m g V t)(k:List T->H->Nat)(X:∀d q a,pre d q a->q.length<=g.ntmps)
 (ao:∀d b a,pre d b a->∀C,oz C 0 b->W (kN cx (r7 P cx tb) (k b a) V t (g.body.getD .skip) ⟨C,.nil⟩ (hr a)) (AJ cx V g.results.toList λo O=>OW a (ky o) O (post d b a))):(kW ι pre post).Ok P cx m:=by
 intro b a ⟨ar,Z⟩;have A:∀d,pre d b a->∃h c,wM cx (r7 P cx tb) (k b a) g V true b a=G (h,mV a c)/\OW a h c (post d b a):=by
  intro d i;have⟨B,an,_,R⟩:=o7 V g.ntmps 0 b (X d b a i);have⟨x,L,c,e,ap,o,al,ae⟩:=Hz (ao d b a i B R);have e:=uj _ j.dr _ _ _ e;have⟨I,f⟩:=C1 j.ok;rw[f]at e;refine⟨_,c,?_,ae⟩;unfold wM;rw[f];obtain⟨p,z,r⟩:=a;simp only;rw[an,fw];have e:lV cx (r7 P cx tb) (k b ⟨p,z,r⟩) V I ⟨B,.nil⟩ ⟨p,p,r⟩=G (x,L,c):=e;rw[e,fw,nV];rcases ap with rfl|rfl<;>(simp only;rw[(rL al),fw];exact(zy z (ky o) c))
 have⟨h,c,u,av,ax,aA,aE,l,aX⟩:=A ar Z;have S:tI P cx ⟨m,b,a,h,mV a c⟩:=λE w aN K s Q=>sP (F:=⟨g,V,true,none⟩) U j8 j.at_ j.ok _ (Hk P cx tb) (k b a) b a h (mV a c) u E w aN K s Q;refine⟨cn aE,DZ a c,λd i=>?_,(Hn S (by unfold Hp at*;exact av) ax (λD y f v=>by rw[iJ]at v|-;exact aA D y f v) (by rw[wV (iJ a c)];exact l))⟩;have⟨r2,n,f,p1,p2,p3,a7,p4,p5⟩:=A d i;rw[u]at f;simp[aw,aH]at f;obtain⟨rfl,e⟩:=f;have N:kI c a.size h=kI n a.size h:=by rw[<-wV (iJ a c),e,wV (iJ a n)]
 rw[N,p4]at l;cases l;have:DZ a c=DZ a n:=by unfold DZ;rw[e]
 rw[this];exact p5
end
end
end
end Go.TI
namespace Go.Proofs.YtdpclhaknmicoaaGreatDoor
noncomputable section
open Go Go.TI Tryz
section
attribute [-simp] List.map_take List.map_drop List.map_append
def Ci:iF:=⟨List Int×Int,λa=>[sl (a.1.map (T.int .i64)),M a.2],λa=>a.1.length<=1099511627776,λa=> .bool (decide (a.2∈a.1)),λa c b=>by
 simp at b;rw[jD Y b.1,b.2]⟩
def aeZ:Ci.Ok prog cx 97:=by refine iD [] (jz 131635 [] func97) (λg=>g.1.length+1) (by simp[Ci]) ?_;rintro⟨b,d⟩ hl a f;simp[Ci]at hl f|-;simp[f97];refine io b.length J (λc a e=>e=hE/\ka a 0 (sl (b.map (T.int .i64)))/\iS a 1 d/\iS a 5 c/\(d∈b.drop c↔d∈b)) ?_ ?_ J (by simp[f]);rintro c a e k m ⟨rfl,h,i,j,l⟩;have n:=aJ k;by_cases o:b[c]=d;simp[*];grind;simp[*];grind;rintro a e ⟨rfl,h,i,j,l⟩;simp[*];grind
def Mz{c:iq}(ht:c.p 97=G Ci)(a:List Int)(b:Int)(hl:a.length<=1099511627776):rl prog cx c 97 [sl (a.map (T.int .i64)),M b]=G (.bool (decide (b∈a))):=iL ht aeZ (a,b) hl
def vd:iF:=⟨List Int×List Int,λa=>[sl (a.1.map (T.int .i64)),sl (a.2.map (T.int .i64))],λa=>a.1.length<=1099511627776/\a.2.length<=1099511627776,λa=> .bool (decide (a.1=a.2)),λa c b=>by
 simp at b;rw[jD Y b.1,jD Y b.2]⟩
def Nz:vd.Ok prog cx 175:=by refine iD [] (jz 33571891 [] func175) (λj=>j.1.length+1) (by simp[vd]) ?_;rintro⟨a,b⟩ hl d h;simp[vd]at hl h|-;obtain⟨f,g⟩:=h;by_cases i:a.length=b.length;simp[*,f175];rw[<-i];refine io a.length J (λc d e=>e=hE/\ka d 0 (sl (a.map (T.int .i64)))/\ka d 1 (sl (b.map (T.int .i64)))/\iS d 5 c/\(a.drop c=b.drop c↔a=b)) ?_ ?_ J (by simp[*]);rintro c d e l o ⟨rfl,f,g,k,n⟩;have p:=aJ l;have m:c<b.length:=J;have q:=aJ m;by_cases r:a[c]=b[c];simp[*];grind;simp[*];grind;rintro d e ⟨rfl,f,g,k,n⟩;simp[*];grind;have s:a≠b:=λe=>i (by rw[e]);have t:¬((a.length:Int)=b.length):=J;simp[*,f175]
def RV{c:iq}(ht:c.p 175=G vd)(a b:List Int)(hl:a.length<=1099511627776)(d:b.length<=1099511627776):rl prog cx c 175 [sl (a.map (T.int .i64)),sl (b.map (T.int .i64))]=G (.bool (decide (a=b))):=iL ht Nz (a,b) ⟨hl,d⟩
def xo:List Int->Int->List Int
 | [],a=>[a]
 |x::b,a=>if x<a then x::xo b a else if x=a then x::b else a::x::b
def Nj:iF:=⟨List Int×Int,λa=>[sl (a.1.map (T.int .i64)),M a.2],λa=>a.1.length<=1099511627776,λa=>sl ((xo a.1 a.2).map (T.int .i64)),λa c b=>by
 simp at b;rw[jD Y b.1,b.2]⟩
def aeT:Nj.Ok prog cx 174:=by refine iD [] (jz 4295229555 [] func174) (λz=>z.1.length+1) (by simp[Nj]) ?_;rintro⟨a,g⟩ hl i y;simp[Nj]at hl y|-;simp[f174];refine io a.length J (λb i u=>u=hE/\ka i 0 (sl (a.map (T.int .i64)))/\iS i 1 g/\iS i 5 b/\xo a g=a.take b++xo (a.drop b) g) ?_ ?_ J (by simp[y]);rintro b i u e D ⟨rfl,c,h,d,k⟩;have n:=aJ e;by_cases j:a[b]<g;simp[c,h,d,e,j,D];rw[k,n,xo,au j,aM e,aO,dQ];by_cases o:a[b]=g;simp[c,h,d,e,o];rw[k,n,xo,aq j,au o,<-n,cB];simp[c,h,d,e,j,o,bQ e];have v:wc (H.cons hE (eg 1 0 [])) 0 (.arr 0 0 0 0 false) 1 (([]:List Int).map (T.int .i64)):= .inr ⟨0,0,0,true,Y,rfl,Y⟩;have⟨E,A,p,w,r⟩:=v.Yw (cx:=cx) (az _) kS rfl nL rfl Y Y (a.take b) dY;simp[p];have⟨F,B,q,x,s⟩:=w.VO (cx:=cx) (az _) kS rfl nL rfl Y Y g dY;simp[q,c,h,d,bQ e];have⟨I,C,m,l,t⟩:=x.Yw (cx:=cx) (az _) kS rfl nL rfl Y Y (a.drop b) dY;simp[m,l.je,l.fzM (f:=T.int .i64) Y];refine⟨t.hp (s.hp (r.hp Y)),?_⟩;rw[k,n,xo,aq j,aq o];rintro i u ⟨rfl,c,h,d,k⟩;simp[c,d];have v:wc (H.cons hE (eg 1 0 [])) 0 (.arr 0 0 0 0 false) 1 (([]:List Int).map (T.int .i64)):= .inr ⟨0,0,0,true,Y,rfl,Y⟩;have⟨E,A,p,w,r⟩:=v.Yw (cx:=cx) (az _) kS rfl nL rfl Y Y a dY;simp[p];have⟨F,B,q,x,s⟩:=w.VO (cx:=cx) (az _) kS rfl nL rfl Y Y g dY;simp[q,c,h,d];have⟨I,C,m,l,t⟩:=x.Yw (cx:=cx) (az _) kS rfl nL rfl Y Y [] dY;rw[bR]at m;simp[m,l.je,l.fzM (f:=T.int .i64) Y];refine⟨t.hp (s.hp (r.hp Y)),?_⟩;rw[k];simp[xo]
def agn{c:iq}(ht:c.p 174=G Nj)(a:List Int)(b:Int)(hl:a.length<=1099511627776):rl prog cx c 174 [sl (a.map (T.int .i64)),M b]=G (sl ((xo a b).map (T.int .i64))):=iL ht aeT (a,b) hl
def ww:iF:=⟨Int×Nat,λa=>[M a.1,M a.2],λa=>True,λa=> .bool (jB a.1 a.2),λa c b=>by simp at b;rw[b.1,show a.2=c.2 by omega]⟩
def aa1:ww.Ok prog cx 172:=by refine iD [] (jz 19 [] func172) (λc=>1) (by simp[ww]) ?_;rintro⟨b,e⟩ _ f a;simp[ww]at a|-;by_cases d:0<=b<;>simp[*,f172,jB]
def I7{c:iq}(ht:c.p 172=G ww)(a:Int)(b:Nat):rl prog cx c 172 [M a,M b]=G (.bool (jB a b)):=iL ht aa1 (a,b) trivial
def Dq:iF:=⟨fU×Int×Int,λa=>[a.1.t,M a.2.1,M a.2.2],λa=>True,λa=> .bool (ko a.1 a.2.1 a.2.2),λa c b=>by simp at b;rw[fU.inj b.1,b.2.1,b.2.2]⟩
def Xa:Dq.Ok prog cx 173:=by
 refine iD [(172,ww)] (jz 606826398900554784047567 [] func173) (λk=>1) (by simp[Dq]) ?_;rintro⟨j,a,i⟩ _ p d;simp[Dq]at d|-;obtain⟨l,e,f⟩:=d;by_cases h:1<=a/\a<=23
 .have g:a=1\/a=2\/a=3\/a=4\/a=5\/a=6\/a=7\/a=8\/a=9\/a=10\/a=11\/a=12\/a=13\/a=14\/a=15\/a=16\/a=17\/a=18\/a=19\/a=20\/a=21\/a=22\/a=23:=J;rcases g with rfl|rfl|rfl|rfl|rfl|rfl|rfl|rfl|rfl|rfl|rfl|rfl|rfl|rfl|rfl|rfl|rfl|rfl|rfl|rfl|rfl|rfl|rfl
  case inr.inr.inr.inr.inr.inl|inr.inr.inr.inr.inr.inr.inl|inr.inr.inr.inr.inr.inr.inr.inl|inr.inr.inr.inr.inr.inr.inr.inr.inl|inr.inr.inr.inr.inr.inr.inr.inr.inr.inl|inr.inr.inr.inr.inr.inr.inr.inr.inr.inr.inl=>
   cases hl:jB i j.fT.length;simp[*,f173,I7,nQ hl,ko];obtain⟨q,n,o⟩:=jt hl;simp[*,f173,I7,ko,fZ (gG.1 hl).1]
  all_goals simp [*,f173,I7,ko]
 have b:∀c:Int,1<=c->c<=23->¬a=c:=λc e f m=>h J;simp[*,f173,ko,b 1,b 2,b 3,b 4,b 5,b 6,b 7,b 8,b 9,b 10,b 11,b 12,b 13,b 14,b 15,b 16,b 17,b 18,b 19,b 20,b 21,b 22,b 23]
def Vu{d:iq}(ht:d.p 173=G Dq)(c:fU)(a b:Int):rl prog cx d 173 [c.t,M a,M b]=G (.bool (ko c a b)):=iL ht Xa (c,a,b) trivial
def wz:iF:=⟨fU×iu,λa=>[a.1.t,a.2.t],λa=>a.1.jl.length<=1099511627776,λa=> .bool (ou a.1 a.2),λa c b=>by simp at b;rw[fU.inj b.1,iu.inj b.2]⟩
def T8:wz.Ok prog cx 171:=by
 refine iD [] (jz 2147484735 [] func171) (λi=>i.1.jl.length+1) (by simp[wz]) ?_;rintro⟨a,g⟩ hl d h;simp[wz]at hl h|-;simp[f171,h];refine io a.jl.length J (λb d f=>f=H.cons (H.cons hE (eg 6 0 [a.t])) (eg 4 0 [g.t])/\jg d 2 0/\jg d 3 1/\iS d 5 b/\(a.jl.drop b).all (λe=>jB e.oG a.fT.length)=a.jl.all λe=>jB e.oG a.fT.length) ?_ ?_ J Y;rintro b d f o p ⟨rfl,j,k,l,c⟩;rw[aJ o,cA]at c;by_cases m:(a.jl[b]).oG<0;have:jB (a.jl[b]).oG a.fT.length=false:=by simp[jB];omega
 simp[*,ou,<-c];by_cases n:(a.fT.length:Int)<=(a.jl[b]).oG;have:jB (a.jl[b]).oG a.fT.length=false:=by simp[jB];omega
 simp[*,ou,<-c];have:jB (a.jl[b]).oG a.fT.length:=by simp[jB];omega
 rw[this,aZ]at c;simp[*];rintro d f ⟨rfl,j,k,l,c⟩;have q:(a.jl.all λe=>jB e.oG a.fT.length):=by rw[<-c];simp
 by_cases m:g.fT.length=a.fT.length<;>by_cases n:g.done.length=a.fR.length<;>simp[*,ou,Int.natCast_inj]
def yp{c:iq}(ht:c.p 171=G wz)(a:fU)(b:iu)(hl:a.jl.length<=1099511627776):rl prog cx c 171 [a.t,b.t]=G (.bool (ou a b)):=iL ht T8 (a,b) hl
def vw:iF:=⟨iu×Int,λa=>[a.1.t,M a.2],λa=>a.1.eY.length<=1099511627776,λa=>sl ((jb a.2 a.1.eY 0).map (T.int .i64)),λa c b=>by simp at b;rw[iu.inj b.1,b.2]⟩
def Q6:vw.Ok prog cx 71:=by refine iD [] (jz 1073743991 [] func71) (λy=>y.1.eY.length+1) (by simp[vw]) ?_;rintro⟨i,p⟩ hl e w;simp[vw]at hl w|-;simp[f71,w];refine io i.eY.length J (λc e a=>Hp a/\1<=a.size/\a.get 0=G (eg 4 0 [i.t])/\iS e 1 p/\jg e 2 0/\iS e 6 c/\∃u d,ka e 5 u/\wc a 1 u 1 (d.map (T.int .i64))/\d.length<=c/\d++jb p (i.eY.drop c) c=jb p i.eY 0) ?_ ?_ J ?_;rintro c e a s x ⟨m,n,g,q,j,l,u,d,k,h,A,b⟩;rw[aJ s,jb]at b;by_cases o:(i.eY[c]).jq=3;by_cases r:(i.eY[c]).cond=p;rw[au ⟨o,r⟩]at b;have⟨D,C,z,B,v⟩:=h.VO (cx:=cx) n kS rfl nL rfl Y Y (c:Int) dY;simp[g,q,j,k,l,s,x,o,r,z];refine⟨v.hp m,aV n v.size,v.get 0 J▸g,_,B,dY,iC b⟩;rw[aq (λa=>r a.2)]at b;simp[g,q,j,k,l,s,x,o,r];exact⟨m,n,d,h,J,b⟩;rw[aq (λa=>o a.1)]at b;simp[g,q,j,k,l,s,x,o];exact⟨m,n,d,h,J,b⟩;rintro e a ⟨m,n,g,q,j,l,u,d,k,h,A,b⟩;simp[jb]at b;simp[g,j,k,l,h.je,h.fzM (f:=T.int .i64) Y,b,m];simp[w];exact wc.nil _ _ _
def CY{c:iq}(ht:c.p 71=G vw)(a:iu)(b:Int)(hl:a.eY.length<=1099511627776):rl prog cx c 71 [a.t,M b]=G (sl ((jb b a.eY 0).map (T.int .i64))):=iL ht Q6 (a,b) hl
def S7(a:List Int)(b:Int):(xo a b).length<=a.length+1:=by
 induction a with
 |nil=>simp[xo]
 |cons d a c=>rw[xo];split<;>(try split)<;>simp<;>omega
def oh(a:List Int)(b:List Int):List Int:=b.foldl xo a
def Bj(a b:List Int):(oh a b).length<=a.length+b.length:=by
 induction b generalizing a with
 |nil=>simp[oh]
 |cons c b d=>
  have e:=d (xo a c);have f:=S7 a c;show(oh (xo a c) b).length<=_;simp;omega
def Em(c b:List Int){a:Nat}(d:a<b.length):oh c (b.take (a+1))=xo (oh c (b.take a)) b[a]:=by rw[aM d];unfold oh;rw[dO];rfl
def Dd(a b:List Int):List Int:=oh (oh [] a) b
def oL:iF:=⟨fU×iu×Int×Int×Int,λa=>[a.1.t,a.2.1.t,M a.2.2.1,M a.2.2.2.1,M a.2.2.2.2],λa=>a.1.jl.length<=1099511627776/\a.2.1.sm,λa=> .bool (jK a.1 a.2.1 a.2.2.1 a.2.2.2.1 a.2.2.2.2),λa c b=>by
 simp at b;rw[fU.inj b.1,iu.inj b.2.1,b.2.2.1,b.2.2.2.1,b.2.2.2.2]⟩
def aes:iq:=⟨pt [(172,ww),(173,Dq),(171,wz),(97,Ci)],ht []⟩
@[simp]def aik:aes.p=pt [(172,ww),(173,Dq),(171,wz),(97,Ci)]:=a9
def Lu:oL.Ok prog cx 119:=by
 refine AO (tb:=aes) ml kl (jz 13215461614728367217751695970865548304603543200842114553566203007 [] func119) (λE=>1) (by simp[oL]) nl9 ?_;rintro⟨f,d,i,n,b⟩ ⟨hl,t⟩ V x;simp[oL]at hl t x|-;cases q:ou f d with
 |false=>simp[*,f119,yp,jK]
 |true=>
  cases r:jB i f.eY.length with
  |false=>simp[*,f119,yp,I7,jK]
  |true=>
   cases h:ko f n b with
   |false=>simp[*,f119,yp,I7,Vu,jK]
   |true=>
    obtain⟨u,C,v⟩:=o8 q;have s:=r;rw[<-v]at s;obtain⟨c,P,A⟩:=jt s;have S:=fZ (gG.1 r).1;have hE:jK f d i n b=BW f d i n b:=by simp[*,jK]
    have I:qu d i=c:=by simp[qu,A]
    rw[hE];simp[*,f119,yp,I7,Vu];rcases xv h with rfl|rfl|rfl|rfl|rfl|rfl|rfl|rfl|rfl|g|g|g|g
    case inl|inr.inl|inr.inr.inl|inr.inr.inr.inl|inr.inr.inr.inr.inl|inr.inr.inr.inr.inr.inl|inr.inr.inr.inr.inr.inr.inl|inr.inr.inr.inr.inr.inr.inr.inl|inr.inr.inr.inr.inr.inr.inr.inr.inl=>
     by_cases j:c.jq=2<;>simp[*,BW]
    have a:=mW h g;rw[<-u]at a;obtain⟨e,o,p⟩:=jt a;have m:=fZ (gG.1 a).1;have k:po d b=e:=by simp[po,p]
    have R:e.gh.length<=1099511627776:=iV (t.2.2.2 e (aB o));by_cases j:c.jq=2;by_cases U:e.jF=-1<;>rcases g with rfl|rfl|rfl|rfl|rfl|rfl<;>simp[*,BW,Mz]
    rcases g with rfl|rfl|rfl|rfl|rfl|rfl<;>simp[*,BW];have a:=qO h g;obtain⟨F,y,K⟩:=jt a;have m:=fZ (gG.1 a).1;have l:=vS q y;rw[<-u]at l;obtain⟨e,o,p⟩:=jt l;have O:=fZ (gG.1 l).1;have k:vV f d b=e:=by simp[*,vV,po]
    by_cases j:c.jq=2;rcases g with rfl|rfl|rfl|rfl<;>simp[*,BW];by_cases H:c.jq=4;by_cases L:c.cond=b<;>rcases g with rfl|rfl|rfl|rfl<;>simp[*,BW]
    rcases g with rfl|rfl|rfl|rfl<;>simp[*,BW];have a:=Au h g;rw[<-v]at a;obtain⟨D,T,B⟩:=jt a;have m:=fZ (gG.1 a).1;have k:qu d b=D:=by simp[qu,B]
    by_cases j:c.jq=2;by_cases Q:b=i<;>rcases g with rfl|rfl<;>simp[*,BW]
    rcases g with rfl|rfl<;>simp[*,BW];have a:=vh h g;rw[<-C]at a;obtain⟨w,N,z⟩:=jt a;have m:=fZ (gG.1 a).1;have k:Hc d b=w:=by simp[Hc,z]
    by_cases j:c.jq=2;rcases g with rfl|rfl<;>simp[*,BW];rcases g with rfl|rfl<;>simp[*,BW]
def yq{f:iq}(ht:f.p 119=G oL)(b:fU)(a:iu)(e c d:Int)(hl:b.jl.length<=1099511627776)(g:a.sm):rl prog cx f 119 [b.t,a.t,M e,M c,M d]=G (.bool (jK b a e c d)):=iL ht Lu (b,a,e,c,d) ⟨hl,g⟩
