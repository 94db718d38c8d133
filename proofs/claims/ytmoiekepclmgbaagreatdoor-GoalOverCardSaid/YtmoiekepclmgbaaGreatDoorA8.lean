/- DFun -/
import Derived.Test.YtmoiekepclmgbaaGreatDoorA7
import Derived.Test.YtmoiekepclmgbaaGreatDoorProg
set_option linter.all false
set_option maxRecDepth 100000
set_option maxHeartbeats 0
namespace Go.Proofs.YtmoiekepclmgbaaGreatDoor
noncomputable section
open Go Go.TI Tryz
def jg:prog.follows .mixedOrders=true:=dU
def Y4:jQ.U3 λb a=>Y5 prog b a.cmp=some a:=by
 unfold jQ;repeat' first|exact .nil|refine .node ?_ dU ?_
def iT:jF prog cx:=⟨λb c a=>⟨_,Y4.find a⟩⟩
end
end Go.Proofs.YtmoiekepclmgbaaGreatDoor
namespace Go.TI
noncomputable section
section
def hr(a:H):H:=⟨a.size,a.size,a.gU⟩
@[simp]def pB (a:H):(hr a).size=a.size:=id rfl
@[simp]def iI (a:H) (b:Nat):(hr a).get b=a.get b:=H.tO a a.size b
@[simp]def aeu (a:H):Hp (hr a)=Hp a:=id rfl
def OU(f:Bool)(c:H)(g:List T)(e:H)(d:T->H->Prop):Prop:=∃b a,E1 f c.size c.low (kt g) e=some (b,a)/\(d b a\/d (cn b) a)
section
variable {P:ai}{cx:Ctx}{cf:jB}{J:Nat}
def ab9(N:P.follows .mixedOrders=true)(jQ:jF P cx){m:aj}{a:Func}{r:DL}(h:F6 P cx m a J r)(C:o6 P cx cf)(i:Bool){b:List T}{c:H}{u:T->H->Prop}(O:b.length<=a.ntmps)(j:Nat)
 (V:∀z,nY z 0 b->W (j4 cx cf j J r (a.body.getD .skip) ⟨z,.nil⟩ (hr c)) (Bg cx J a.results.toList λt f=>OU i c t f u)):∃d f,u d f/\rm P cx ⟨m,b,c,d,f⟩:=by
 have⟨y,U,_,K⟩:=nQ J a.ntmps 0 b O;have⟨x,E,I,e,X,t,R,d,g,hl,hp⟩:=F0 (V y K);have e:=so _ h.dr _ _ _ e;have⟨B,s⟩:=BB h.ok;rw[s]at e;have L:u9 cx cf j a J i b c=some (d,g):=by
  unfold u9;rw[s];obtain⟨w,aA,A⟩:=c;simp only;rw[U,eJ];have e:kJ cx cf j J B ⟨y,.nil⟩ ⟨w,w,A⟩=some (x,E,I):=e;rw[e,eJ,mW];have S:=qf R;rcases X with rfl|rfl<;>(simp only;rw[S,eJ];exact hl)
 have Q:zo ⟨a,J,i,none⟩=true:=h.ok;have M:rm P cx ⟨m,b,c,d,g⟩:=λk p q l o n=>qU (F:=⟨a,J,i,none⟩) N jQ h.at_ Q cf C j b c d g L k p q l o n;rcases hp with hp|hp
 ·grind
 ·exact⟨cn d,g,hp,λk p q l o n=>(M k p q l o n).mono λv aE ⟨⟨av,Z,ae,al,an⟩,ap⟩=>⟨⟨av,Z.cn,ae,al,an⟩,ap⟩⟩
def Lr{tb:gG}{c:mr}(l:P.follows .mixedOrders=true)(jQ:jF P cx){f:aj}{d:Func}{e:DL}(o:F6 P cx f d J e)(i:Bool)(j:List T->H->Nat)(m:∀a b,c.pre a b->a.length<=d.ntmps)
 (n:∀a b,c.pre a b->∀k,nY k 0 a->W (j4 cx (sq P cx tb) (j a b) J e (d.body.getD .skip) ⟨k,.nil⟩ (hr b)) (Bg cx J d.results.toList λp g=>OU i b p g (c.post a b))):c.Ok P cx f:=
 λa b h=>by
  have⟨s,g,q,r⟩:=ab9 l jQ o (FL P cx tb) i (m a b h) (j a b) (n a b h)
  grind
end
def Y2{P:ai}{cx:Ctx}{cf:jB}{J:Nat}(M:P.follows .mixedOrders=true)(jQ:jF P cx){p:aj}{c:Func}{y:DL}(j:F6 P cx p c J y)(H:o6 P cx cf){b:List T}{m:T->Prop}(hl:m7 b=true)(A:b.length<=c.ntmps)(k:Nat)
 (Q:∀f,nY f 0 b->W (j4 cx cf k J y (c.body.getD .skip) ⟨f,.nil⟩ hE) (Bg cx J c.results.toList λC g=>∃a,m a/\Nm g C a)):∃a,m a/\mp P cx p b a:=by
 have ae:∃a,m a/\∀f,nY f 0 b->TI.d8 f 0=TI.d8 f 0->∃d,cn d=a/\u9 cx cf k c J false b hE=some (d,hE):=by
  have⟨l,B,_,s⟩:=nQ J c.ntmps 0 b A;have⟨x,I,g,e,R,C,hr,a,r,N,i⟩:=F0 (Q l s);have e:=so _ j.dr _ _ _ e;have⟨E,h⟩:=BB j.ok;rw[h]at e;unfold Qr at i;have⟨d,i,z⟩:=dX.1 i;simp only[ar]at z;refine⟨a,r,λ_ _ _=>⟨d,z,?_⟩⟩;unfold u9;rw[h];simp only;rw[B,eJ];have e:kJ cx cf k J E ⟨l,.nil⟩ ⟨0,0,[]⟩=some (x,I,g):=e;rw[e,eJ,mW];have O:=qf hr;rcases R with rfl|rfl<;>(simp only;rw[O,eJ];exact Kf N i)
 obtain⟨a,r,L⟩:=ae;have⟨l,B,_,s⟩:=nQ J c.ntmps 0 b A;obtain⟨d,rfl,h⟩:=L l s rfl;refine⟨cn d,r,?_⟩;have K:mp P cx p b d:=AV (mc _ hl) λn u w o t q=>
  qU (F:=⟨c,J,false,none⟩) M jQ j.at_ j.ok cf H k b hE d hE h n u w o t q
 intro n u w o g t q;refine(K n u w o g t q).mono λv an ⟨⟨al,S,U,V,X⟩,Z⟩=>?_;exact⟨⟨al,S.cn,U,V,X⟩,Z⟩
def Kr(b:T):Prop:=∃a,b= .bool a
def yi(a:Nat)(d:T)(b:H):oO a d b=some (d,⟨b.size,if b.low<a then b.low else a,b.gU⟩):=by
 obtain⟨f,c,e⟩:=b;show @Bool.rec (λ_=>aa (T×H)) (some (d,⟨f,a,e⟩)) (some (d,⟨f,c,e⟩)) (Nat.blt c a)=_;by_cases hl:c<a
 ·rw[show Nat.blt c a=true by rw[aJ];exact hl,aq hl]
 ·rw[show Nat.blt c a=false by rw[dC];intro g;rw[aJ]at g;omega,ao hl]
def KE{h:H}(f:Hp h){a d:Nat}(e:a<=h.size){b:Nat}(c:b<a):(⟨a,d,h.gU.drop (h.size-a)⟩:H).get b=h.get b:=by
 rw[H.get_eq,H.get_eq];simp only;rw[aq c,aq D,bM]
 grind
def sg(a b:H)(j:List T){r:T}{k:T->H->Prop}(t:Hp a)(c:Fr a.size (hr a) b)(f:(Z (jJ b a.size (kt j)) λq=>some (cn q))=some r)(n:k r a):OU false a j b k:=by
 have⟨p,f,i⟩:=dX.1 f;simp only[ar]at i;unfold OU E1;simp only[f];have u:Hp b:=c.hp (by simp_all);have m:a.size<=b.low:=c.low (au _);have s:a.size<=b.size:=c.size;have e:b.gU.drop (b.size-a.size)=a.gU:=by
  apply dh;intro d;rw[bM];rcases aS d a.size with hi|hi
  ·have h:=c.get (a.size-1-d) D;rw[iI,H.get_eq,H.get_eq,aq D,aq D]at h;rw[show b.size-a.size+d=b.size-1-(a.size-1-d)by omega,h]
   grind
  grind [Hp,bP]
 obtain⟨l,o,g⟩:=b;unfold wh;simp only;rw[nd,aq (by grind [Hp]),eJ,show Nat.ble a.size o=true from cq m];refine⟨p,_,rfl,.inr ?_⟩;rw[i];have:(⟨a.size,a.low,List.drop (Nat.sub l a.size) g⟩:H)=a:=by
  have e:List.drop (Nat.sub l a.size) g=a.gU:=e;rw[e]
 rw[this];exact n
end
section
noncomputable section
variable {cx:Ctx}{J:Nat}{e:Env}{h:H}
end
end
section
structure iE(n:Nat)(h:H):Prop where
 hp:Hp h
 low:h.low<=h.size
 sz:n<=h.size
theorem iE.cons{c:Nat}{b:H}(a:iE c b)(d:jv):iE c (b.cons d):=⟨by simpa using a.hp,by simp only[To];have:=a.low;grind [H.cons],by have:=a.sz;grind [H.cons]⟩
def iE.ne{c:Nat}{a:H}(d:iE c a){b:Nat}(e:b<c):(b=a.size)=False:=by have:=d.sz;grind
def iE.QZ{d c:Nat}{b:H}(a:iE d b)(e:c<=d):iE c b:=⟨a.hp,a.low,aQ e a.sz⟩
def Ju(c:H)(b:Nat)(g:jv):(fg c b g).low<=c.low:=by
 unfold fg;cases a:c.put b g with
 |none=>simp
 |some h=>
  obtain⟨e,d,j⟩:=c;have a:(iG (Nat.blt b e) (Z (lU j (Nat.sub (Nat.sub e 1) b) g) λf=> @Bool.rec (λ_=>aa H) (some ⟨e,d,f⟩) (some ⟨e,b,f⟩) (Nat.blt b d)))=some h:=a;have⟨_,a⟩:=ew.1 a;have⟨f,_,a⟩:=dX.1 a;show h.low<=d;cases i:Nat.blt b d<;>rw[i]at a<;>simp only[ar]at a<;>subst a
  ·simp
  ·rw[aJ]at i;grind
theorem iE.put{n:Nat}{a:H}(b:iE n a)(d:Nat)(e:jv):iE n (fg a d e):=⟨by simpa using b.hp,by rw[ig];exact aQ (Ju a d e) b.low,by rw[ig];exact b.sz⟩
structure sx(sz:Nat)(h h':H):Prop where
 get:∀c x,h.get c=some x->x.sz≠sz->h'.get c=some x
 ok:∀n,iE n h->iE n h'
 size:h.size<=h'.size
def sx.refl(d:Nat)(a:H):sx d a a:=⟨λ_ _ b _=>b,λ_ c=>c,au _⟩
def sx.trans{c:Nat}{e f g:H}(a:sx c e f)(b:sx c f g):sx c e g:=⟨λd j k h=>b.get d j (a.get d j k h) h,λi l=>b.ok i (a.ok i l),aQ a.size b.size⟩
theorem sx.cons(e:Nat)(a:H)(c:jv):sx e a (a.cons c):=⟨λf h b _=>by have:=H.fG b;rw[ez,ao D];exact b,λg d=>d.cons c,Y⟩
theorem sx.put{d:Nat}{b:H}{a:Nat}{x:jv}(f:b.get a=some x)(i:x.sz=d)(e:jv):sx d b (fg b a e):=⟨λc k h j=>by
 rw[ee f]
 grind,λn g=>g.put a e,Y⟩
def uE.ae4{cx:Ctx}{a:H}{d:T}{b:Nat}{e:List T}(r:uE a 0 d b e){n o j:ab}{t v c:Ty}(A:cx.ty n=some t)(B:t.u= .slice j)(C:cx.ty j=some c)(E:cx.ty o=some v)(F:v.u= .slice j)(s:c.size=b)(q:1<=c.bytes)
 {x:T} {xs:List T} (K:a.jM x=some xs) (l:∀y∈xs,y.cells.length=b) (J:(e.length+xs.length)*c.bytes<=70368744177664):
 ∃w k,jn cx a n o d x=some (.val w k)/\uE k 0 w b (e++xs)/\sx b a k:=by
 have I:jn cx a n o d x=j7 (a.append c.size c.bytes d xs):=by
  unfold jn qt nH;rw[A,eJ,E,eJ];simp only[B,C,F,K,eJ];rw[s,lN l,iR]
 rw[I,s];cases xs with
 |nil=>
  refine⟨d,a,?_,by grind,sx.refl _ _⟩;show j7 (iG (qp d) (some (d,a)))=_;rcases r with⟨rfl,_⟩|⟨h,i,p,z,_,rfl,_⟩<;>rfl
 |cons f g=>
  rcases r with⟨rfl,rfl⟩|⟨h,i,p,z,L,rfl,m⟩
  ·refine⟨.arr a.size 0 0 (f::g).length false,a.cons ⟨b,0,0,false,false,f::g⟩,?_,.inr ⟨a.size,0,0,false,aw _,rfl,Y⟩,sx.cons _ _ _⟩;show j7 (a.js b c.bytes [] (f::g))=_;rw[qy l q (by grind)];rfl
  ·refine⟨.arr h (i+1) 0 (e++f::g).length false,fg a h ⟨b,i+1,p+1,false,false,e++f::g⟩,?_,.inr ⟨h,i+1,p+1,false,L,rfl,by rw[ee m,aq rfl]⟩,sx.put m rfl _⟩;show j7 (a.nP b c.bytes h i e.length (f::g))=_;rw[yv m l q J];rfl
def uE.YP{cx:Ctx}{f:H}{o:T}{b:Nat}{i:Type}{a:i->T}{e:List i}(s:uE f 0 o b (e.map a)){g k:ab}{n d:Ty}(l:cx.ty g=some n)(m:n.u= .slice k)(p:cx.ty k=some d)(t:d.size=b)(q:1<=d.bytes)
 (r:∀x,MX (a x)=b) (xs:List i) (v:(e.length+xs.length)*d.bytes<=70368744177664):
 ∃h c,jn cx f g g o (sl (xs.map a))=some (.val h c)/\uE c 0 h b ((e++xs).map a)/\sx b f c:=by
 have⟨h,c,w,y,z⟩:=s.ae4 (x:=sl (xs.map a)) (xs:=xs.map a) l m p l m t q Y (by simpa using λj _=>show(a j).cells.length=b from r j) (by grind)
 grind
def uE.Nd{cx:Ctx}{c:H}{n:T}{a:Nat}{i:Type}{b:i->T}{g:List i}(r:uE c 0 n a (g.map b)){h j:ab}{m e:Ty}(k:cx.ty h=some m)(l:m.u= .slice j)(o:cx.ty j=some e)(s:e.size=a)(p:1<=e.bytes)
 (q:∀x,MX (b x)=a) (x:i) (y:(g.length+1)*e.bytes<=70368744177664):
 ∃f d,jn cx (c.cons ⟨a,0,0,true,false,[b x]⟩) h h n (.arr c.size 0 0 1 false)=some (.val f d)/\uE d 0 f a ((g++[x]).map b)/\sx a c d:=by
 have⟨f,d,t,v,w⟩:=(r.cons ⟨a,0,0,true,false,[b x]⟩).ae4 (x:= .arr c.size 0 0 1 false) (xs:=[b x]) k l o k l s p (by rw[iF];simp) (by simpa using show(b x).cells.length=a from q x) (by grind);exact⟨f,d,t,by rw[List.map_append];exact v,(sx.cons _ _ _).trans w⟩
def uH{i:Env->H->Out}(b:Nat)(e:Nat->iz->H->Prop){h:jp}
 (n:∀k c a,k<=b->e k c a->W (i ⟨c,.nil⟩ a) (Ai (λd a=>d.tmps= .nil/\∃f,k<f/\f<=b/\e f d.vars a) h)) {g:Nat} (o:b<g) {k:Nat} (l:k<=b) {c:iz} {a:H} (j:e k c a):W (pT i g ⟨c,.nil⟩ a) h:=by
 refine UL (σ:=Nat) (I:=λk d a=>k<=b/\d.tmps= .nil/\e k d.vars a) (m:=λk=>b-k) ?_ g k _ _ D ⟨l,rfl,j⟩;rintro k ⟨c,p⟩ a ⟨l,ht,j⟩
 grind
section
variable {cx:Ctx}
@[simp]def Wu (c:Nat) (a b:List T):eqFields cx [] c a b=some true:=id rfl
def MN{a:Ty}{d:List (Nat×ab)}(e:a.u= .struct d)(f:a.cmp=true)(b c:List T):Lm cx a (.agg b) (.agg c)=eqFields cx d 0 b c:=by
 unfold Lm;rw[e];simp_all
@[simp]def PC (a:ak):(U.int a).plain=true:=id rfl
@[simp]def L4:U.bool.plain=true:=id rfl
end
end
section
section
variable {P:ai}{cx:Ctx}
def FO{f:aj}{u:List T}{b c:H}{J K:T}(R:rm P cx ⟨f,u,b,J,c⟩)(ae:Hp c)(B:b.size<=c.size)
 (S:∀a h,a<b.size->c.get a=some h->c.get a=b.get a\/∀o∈gH h.fR,rj b.size o) (U:jJ c b.size J=some K):
 rm P cx ⟨f,u,b,cn K,⟨b.size,c.low,c.gU.drop (c.size-b.size)⟩⟩:=by
 intro M w s N r j;refine(R M w s N r j).mono λo av ⟨⟨t,al,F,g,l⟩,q⟩=>?_;have x:∀a e,s a=some e->a<b.size:=λa e d=>r.fG d;have l:Ax s t b.size c.size:=l;have hl:∀a e h,a<b.size->t a=some e->c.get a=some h->∀o∈gH h.fR,rj b.size o:=by
  intro a e h d j C;rcases S a h d C with he|he
  ·rcases l.2.1 a (by rw[j];simp)with k|k
   ·have⟨L,O⟩:=Option.ne_none_iff_exists'.1 k;have⟨aA,p,Z⟩:=r.box a L O;rw[<-he,C]at p;simp only[ar]at p;subst p;exact Z.low x
   ·omega
  omega
 have v:=St.cut (low:=c.low) F B hl;have z:∀a,a<b.size->(⟨b.size,c.low,c.gU.drop (c.size-b.size)⟩:H).get a=c.get a:=λa d=>KE ae B d;refine⟨⟨nN b.size t,(xq F al U).cn,v,⟨⟨g.ext.size,λi V X=>?_,λa e d=>?_,g.ext.qD,g.ext.kept⟩,g.os,g.tape,g.output⟩,au _,λa d=>?_,λa I m=>absurd I (by show¬b.size<=a;have m:a<b.size:=m;omega)⟩,?_⟩
 ·have⟨an,ap⟩:=g.ext.o7 i V X
  grind [yK]
 ·rw[wx (x a e d)];exact g.ext.mu a e d
 ·left;have⟨e,j⟩:=Option.ne_none_iff_exists'.1 d;have⟨I,m⟩:=kN j;rcases l.2.1 a (by rw[m];simp)with k|k
  ·exact k
  ·omega
 ·refine⟨v.wf,au _,q.low,λa d W=>?_,λa y E=>?_⟩
  ·rw[z a d];exact q.md a d W
  ·rw[z a (H.fG E)];exact q.ver a y E
def MH{c d:H}(e:∀a,d.get a=c.get a)(n:Nat):∀b,freeze d n b=freeze c n b:=by
 grind [freeze,iu,Z,takeN,kH,Nat.beq,iG,Nat.ble]
def vz{a b:H}(i:∀e,b.get e=a.get e)(n:Nat)(c:T):jJ b n c=jJ a n c:=by
 have g:jk b n=jk a n:=by funext d;cases d<;>(unfold jk;simp only[MH i])
 have h:lf b n=lf a n:=by funext d;cases d<;>(unfold lf;simp only[g])
 cases c<;>(unfold jJ;simp only[h])
end
def FT(e:H)(c:Nat->Prop):Nat->T->T->Prop
 |0,_,_=>False
 |d+1,a,g=>(kE a=true/\(∀b,a≠ .agg b)/\g=cn a)\/
  (∃h l o m f j k,a= .arr h l o m f/\c h/\e.jM a=some j/\jh (FT e c d) j k/\g=sl k)\/
  (∃b i,a= .agg b/\jh (FT e c d) b i/\g= .agg i)
def jh.imp_mem{α h:Type}{d R':α->h->Prop}{c:List α}{g:List h}(i:jh d c g)(e:∀a∈c,∀b,d a b->R' a b):jh R' c g:=by
 induction i with
 |nil=>exact .nil
 |cons a _ j=>exact .cons (e _ Y _ a) (j λk l b=>e k (by grind) b)
def sa{α d:Type}{f:α->aa d}{b:List α}{c:List d}(g:jh (λa e=>f a=some e) b c):iu f b=some c:=by
 induction g with
 |nil=>rfl
 |cons a _ h=>rw[kl,a,h];rfl
def FT.yY{h:H}{V:Nat->Prop}:∀{d:Nat} {v t:T},FT h V d v t->TI.yY h d v=some t:=by
 intro d;induction d with
 |zero=>intro v t c;exact c.elim
 |succ d g=>
  intro v t c;rcases c with⟨j,k,rfl⟩|⟨e,p,u,s,f,q,r,rfl,_,l,a,rfl⟩|⟨m,o,rfl,a,rfl⟩
  ·unfold TI.yY;rw[u6 h 0 d v j k];rfl
  ·rw[Al,l,eJ,sa (a.imp λi e b=>g b)];rfl
  ·rw[Wo,sa (a.imp λi e b=>g b)];rfl
def Ko{c d:H}{a b g e:Nat}{f:Bool}(h:d.get a=c.get a):d.jM (.arr a b g e f)=c.jM (.arr a b g e f):=by
 rw[iF,iF,h]
def FT.mono{k h':H}{i j:Nat->Prop}(m:∀a,i a->j a/\h'.get a=k.get a):∀{b:Nat} {e d:T},FT k i b e d->FT h' j b e d:=by
 intro b;induction b with
 |zero=>intro e d c;exact c.elim
 |succ b o=>
  intro e d c;rcases c with c|⟨a,s,x,w,f,t,u,rfl,l,v,g,rfl⟩|⟨q,r,rfl,g,rfl⟩
  ·exact .inl c
  ·exact .inr (.inl ⟨a,s,x,w,f,t,u,rfl,(m a l).1,by rw[Ko (m a l).2];exact v,g.imp λp a h=>o h,rfl⟩)
  ·exact .inr (.inr ⟨q,r,rfl,g.imp λp a h=>o h,rfl⟩)
def FT.deep{k:H}{j:Nat->Prop}:∀{b a:Nat} {e d:T},b<=a->FT k j b e d->FT k j a e d:=by
 intro b;induction b with
 |zero=>intro a e d _ c;exact c.elim
 |succ b l=>
  intro a e d y c;obtain⟨a,rfl⟩:∃q,a=q+1:=⟨a-1,D⟩;rcases c with c|⟨g,r,x,w,f,s,t,rfl,u,v,h,rfl⟩|⟨o,p,rfl,h,rfl⟩
  ·exact .inl c
  ·exact .inr (.inl ⟨g,r,x,w,f,s,t,rfl,u,v,h.imp λm g i=>l D i,rfl⟩)
  ·exact .inr (.inr ⟨o,p,rfl,h.imp λm g i=>l D i,rfl⟩)
def FT.fz{h:H}{V:Nat->Prop}{v t:T}(l:FT h V 12 v t):TI.fz h v=some t:=by
 rcases l with⟨i,e,rfl⟩|⟨g,o,s,r,f,p,q,rfl,e,j,a,rfl⟩|⟨b,c,rfl,a,rfl⟩
 ·show(Z (jk h 0 v) λv=>some (cn v))=_;rw[sM h i e];rfl
 ·rw[wY,j,eJ,sa (a.imp λm g k=>k.yY)];rfl
 ·have:=FT.yY (h:=h) (V:=V) (d:=12) (v:= .agg b) (t:= .agg c) (.inr (.inr ⟨b,c,rfl,a,rfl⟩));exact this
@[simp]def iC (d:H) (b:Nat->Prop) (c:Nat) (a:ak) (n:Int):FT d b (c+1) (.int a n) (.int a n):= .inl ⟨Y,Y,Y⟩
@[simp]def kO (d:H) (b:Nat->Prop) (c:Nat) (a:List Nat):FT d b (c+1) (.str a) (.str a):= .inl ⟨Y,Y,Y⟩
@[simp]def OW (d:H) (b:Nat->Prop) (c:Nat) (a:Bool):FT d b (c+1) (.bool a) (.bool a):= .inl ⟨Y,Y,Y⟩
theorem qM(g:H)(d:Nat->Prop)(e:Nat){a:List T}(c:∀b∈a,cn b=b):FT g d (e+1) (sl a) (sl a):=by
 refine .inl ⟨Y,by cases a<;>simp[sl],?_⟩;rw[Or];congr 1;induction a with
 |nil=>rfl
 |cons b k h=>rw[aL,c b Y,<-h λi j=>c i (by grind)]
def jS(c:H)(a:Nat->Prop)(b:Nat)(f:Bool):FT c a (b+1) (.ed [] f) (sl []):= .inl ⟨Y,Y,by rw[oR];rfl⟩
section
variable {cx:Ctx}{cf:jB}{J n:Nat}{dl:DL}
def fT(b e:Code)(c:Env)(d:H)(a:jp):CK (some (.bool true)) cx cf n J dl b e c d a=W (j4 cx cf n J dl b c d) a:=rfl
def fM(e b:Code)(c:Env)(d:H)(a:jp):CK (some (.bool false)) cx cf n J dl e b c d a=W (j4 cx cf n J dl b c d) a:=rfl
def fw{d:Bool}{e g:Code}{b:Env}{c:H}{a:jp}(h:d=true->W (j4 cx cf n J dl e b c) a)(i:d=false->W (j4 cx cf n J dl g b c) a):CK (some (.bool d)) cx cf n J dl e g b c a:=by
 simp_all
end
def wR(P:ai)(cx:Ctx)(f:aj){α:Type}(A:α->List T)(pre:α->Prop)(Q:α->T->Prop):iy:=
 ⟨α,A,pre,λa=>Classical.epsilon λc=>(∀b,A b=A a->Q b c)/\mp P cx f (A a) c,λa b d=>by grind⟩
section
variable {P:ai}{cx:Ctx}{f:aj}{α:Type}{A:α->List T}{pre:α->Prop}{Q:α->T->Prop}
theorem Nr(e:∀a b,A a=A b->a=b){a:α}(g:∃c,Q a c/\mp P cx f (A a) c):Q a ((wR P cx f A pre Q).R a)/\mp P cx f (A a) ((wR P cx f A pre Q).R a):=by
 have d:∃c,(∀b,A b=A a->Q b c)/\mp P cx f (A a) c:=by
  grind
 have:=Classical.epsilon_spec d;exact⟨this.1 a rfl,this.2⟩
theorem aca(d:∀a b,A a=A b->a=b)(g:∀a,pre a->∃c,Q a c/\mp P cx f (A a) c):(wR P cx f A pre Q).Ok P cx f:=λa e=>(Nr d (g a e)).2
def AA{tb:gG}{c:Func}{J:Nat}{dl:DL}(i:P.follows .mixedOrders=true)(jQ:jF P cx)(l:F6 P cx f c J dl)(n:α->Nat)(o:∀a d,A a=A d->a=d)(hl:∀a,m7 (A a)=true)(j:∀a,(A a).length<=c.ntmps)
 (k:∀a,pre a->∀g,nY g 0 (A a)->W (j4 cx (sq P cx tb) (n a) J dl (c.body.getD .skip) ⟨g,.nil⟩ hE) (Bg cx J c.results.toList λm e=>∃b,Q a b/\Nm e m b)):(wR P cx f A pre Q).Ok P cx f/\∀a,pre a->Q a ((wR P cx f A pre Q).R a):=by
 have e:∀a,pre a->∃b,Q a b/\mp P cx f (A a) b:=λa h=>Y2 i jQ l (FL P cx tb) (hl a) (j a) (n a) (k a h)
 grind [Nr,aca]
def o9(P:ai)(cx:Ctx)(f:aj)(A:α->List T)(pre:α->Prop)(Q:α->T->Prop):Prop:=(wR P cx f A pre Q).Ok P cx f/\∀a,pre a->Q a ((wR P cx f A pre Q).R a)
def Dv(d:α->Nat)(step:∀c,o9 P cx f A (λa=>pre a/\d a<c) Q->o9 P cx f A (λa=>pre a/\d a<c+1) Q):o9 P cx f A pre Q:=by
 have e:∀c,o9 P cx f A (λa=>pre a/\d a<c) Q:=by
  intro c;induction c with
  |zero=>exact⟨λa b=>absurd b.2 (Nat.not_lt_zero _),λa b=>absurd b.2 (Nat.not_lt_zero _)⟩
  |succ c g=>simp_all
 exact⟨λa b=>(e (d a+1)).1 a ⟨b,du _⟩,λa b=>(e (d a+1)).2 a ⟨b,du _⟩⟩
end
def Ih(b:Prop)(c:T):Prop:=∃a,c= .bool a/\(a=true->b)
@[simp]def abJ (b:Prop) (a:Bool):Ih b (.bool a)=(a=true->b):=by
 unfold Ih;apply propext;constructor
 ·simp
 ·simp
@[simp]def aer (a:Bool):Kr (.bool a)=True:=by simp[Kr]
end
end
end Go.TI
namespace Go.Proofs.YtmoiekepclmgbaaGreatDoor
noncomputable section
open Go Go.TI Tryz
def iq(d:List (aj×iy)){b:iy}{g:aj}{c:Func}{e:Nat}{f:DL}(m:F6 prog cx g c e f)(h:b.α->Nat)(hl:∀a,m7 (b.A a)=true)
 (l:∀a,b.pre a->∀i,nY i 0 (b.A a)->W (j4 cx (sq prog cx ⟨pt d,ht []⟩) (h a) e f (c.body.getD .skip) ⟨i,.nil⟩ hE) (Bg cx e c.results.toList λd j=>Nm j d (b.R a)))
 (k:∀a,Nat.ble (b.A a).length c.ntmps=true:=by intro _;rfl):b.Ok prog cx g:=y9 (tb:=⟨pt d,ht []⟩) jg iT m h hl (λa=>aY (k a)) l
def jL(d:List (aj×iy)){e:Type}{b:e->List T}{l:e->Prop}{g:e->T->Prop}{j:aj}{c:Func}{f:Nat}{i:DL}(s:F6 prog cx j c f i)(k:e->Nat)(p:∀a h,b a=b h->a=h)
 (r:∀a,l a->∀n,nY n 0 (b a)->W (j4 cx (sq prog cx ⟨pt d,ht []⟩) (k a) f i (c.body.getD .skip) ⟨n,.nil⟩ hE) (Bg cx f c.results.toList λd o=>∃m,g a m/\Nm o d m))
 (hl:∀a,m7 (b a)=true:=by simp) (q:∀a,Nat.ble (b a).length c.ntmps=true:=by intro _;rfl):o9 prog cx j b l g:=AA (tb:=⟨pt d,ht []⟩) jg iT s k p hl (λa=>aY (q a)) r
structure iK where
 name:List Nat
 index:Int
 size:Int
 vL:Bool
 jG:Int
 deriving DecidableEq,Inhabited
def iK.cs(a:iK):List T:=[.str a.name,G a.index,G a.size,.bool a.vL,G a.jG]
def iK.t(a:iK):T:= .agg a.cs
@[simp]def iK.ag (a:iK):rn a.t [.str a.name,G a.index,G a.size,.bool a.vL,G a.jG] 5:=C2
@[simp]theorem iK.fold (a0:List Nat) (a1 a2:Int) (a3:Bool) (a4:Int):T.agg [.str a0,G a1,G a2,.bool a3,G a4]=iK.t ⟨a0,a1,a2,a3,a4⟩:=rfl
@[simp]theorem iK.eta (a:iK):iK.mk a.name a.index a.size a.vL a.jG=a:=rfl
def iK.inj{a b:iK}(c:a.t=b.t):a=b:=by
 rcases a with⟨_,_,_,_,_⟩;rcases b with⟨_,_,_,_,_⟩;simp[iK.t,iK.cs,-iK.fold]at c;simp[c]
def iK.sI(a b:List iK):(sl (a.map iK.t)=sl (b.map iK.t))=(a=b):=pG λ_ _=>iK.inj
structure ja where
 name:List Nat
 rW:Bool
 deriving DecidableEq,Inhabited
def ja.cs(a:ja):List T:=[.str a.name,.bool a.rW]
def ja.t(a:ja):T:= .agg a.cs
@[simp]def ja.ag (a:ja):rn a.t [.str a.name,.bool a.rW] 2:=C2
@[simp]theorem ja.fold (a0:List Nat) (a1:Bool):T.agg [.str a0,.bool a1]=ja.t ⟨a0,a1⟩:=rfl
@[simp]theorem ja.eta (a:ja):ja.mk a.name a.rW=a:=rfl
def ja.inj{a b:ja}(c:a.t=b.t):a=b:=by
 rcases a with⟨_,_⟩;rcases b with⟨_,_⟩;simp[ja.t,ja.cs,-ja.fold]at c;simp[c]
def ja.sI(a b:List ja):(sl (a.map ja.t)=sl (b.map ja.t))=(a=b):=pG λ_ _=>ja.inj
structure jq where
 name:List Nat
 kY:Int
 deriving DecidableEq,Inhabited
def jq.cs(a:jq):List T:=[.str a.name,G a.kY]
def jq.t(a:jq):T:= .agg a.cs
@[simp]def jq.ag (a:jq):rn a.t [.str a.name,G a.kY] 2:=C2
@[simp]theorem jq.fold (a0:List Nat) (a1:Int):T.agg [.str a0,G a1]=jq.t ⟨a0,a1⟩:=rfl
@[simp]theorem jq.eta (a:jq):jq.mk a.name a.kY=a:=rfl
def jq.inj{a b:jq}(c:a.t=b.t):a=b:=by
 rcases a with⟨_,_⟩;rcases b with⟨_,_⟩;simp[jq.t,jq.cs,-jq.fold]at c;simp[c]
def jq.sI(a b:List jq):(sl (a.map jq.t)=sl (b.map jq.t))=(a=b):=pG λ_ _=>jq.inj
structure jc where
 eg:Int
 stmt:Int
 wU:Int
 deriving DecidableEq,Inhabited
def jc.cs(a:jc):List T:=[G a.eg,G a.stmt,G a.wU]
def jc.t(a:jc):T:= .agg a.cs
@[simp]def jc.ag (a:jc):rn a.t [G a.eg,G a.stmt,G a.wU] 3:=C2
@[simp]theorem jc.fold (a0 a1 a2:Int):T.agg [G a0,G a1,G a2]=jc.t ⟨a0,a1,a2⟩:=rfl
@[simp]theorem jc.eta (a:jc):jc.mk a.eg a.stmt a.wU=a:=rfl
def jc.inj{a b:jc}(c:a.t=b.t):a=b:=by
 rcases a with⟨_,_,_⟩;rcases b with⟨_,_,_⟩;simp[jc.t,jc.cs,-jc.fold]at c;simp[c]
def jc.sI(a b:List jc):(sl (a.map jc.t)=sl (b.map jc.t))=(a=b):=pG λ_ _=>jc.inj
structure fc where
 cells:List iK
 fj:List ja
 iB:List jq
 fa:List (List Nat)
 dW:List (List Nat)
 ji:List jc
 deriving DecidableEq,Inhabited
def fc.cs(a:fc):List T:=[sl (a.cells.map iK.t),sl (a.fj.map ja.t),sl (a.iB.map jq.t),sl (a.fa.map T.str),sl (a.dW.map T.str),sl (a.ji.map jc.t)]
def fc.t(a:fc):T:= .agg a.cs
@[simp]def fc.ag (a:fc):rn a.t [sl (a.cells.map iK.t),sl (a.fj.map ja.t),sl (a.iB.map jq.t),sl (a.fa.map T.str),sl (a.dW.map T.str),sl (a.ji.map jc.t)] 6:=C2
@[simp]theorem fc.fold (a0:List iK) (a1:List ja) (a2:List jq) (a3 a4:List (List Nat)) (a5:List jc):T.agg [sl (a0.map iK.t),sl (a1.map ja.t),sl (a2.map jq.t),sl (a3.map T.str),sl (a4.map T.str),sl (a5.map jc.t)]=fc.t ⟨a0,a1,a2,a3,a4,a5⟩:=rfl
@[simp]theorem fc.eta (a:fc):fc.mk a.cells a.fj a.iB a.fa a.dW a.ji=a:=rfl
def fc.inj{a b:fc}(c:a.t=b.t):a=b:=by
 rcases a with⟨_,_,_,_,_,_⟩;rcases b with⟨_,_,_,_,_,_⟩;simp[fc.t,fc.cs,iK.sI,jq.sI,ja.sI,jc.sI,slS,-fc.fold]at c;simp[c]
structure em where
 jl:Int
 fF:List Int
 deriving DecidableEq,Inhabited
def em.cs(a:em):List T:=[G a.jl,sl (a.fF.map (T.int .i64))]
def em.t(a:em):T:= .agg a.cs
@[simp]def em.ag (a:em):rn a.t [G a.jl,sl (a.fF.map (T.int .i64))] 2:=C2
@[simp]theorem em.fold (a0:Int) (a1:List Int):T.agg [G a0,sl (a1.map (T.int .i64))]=em.t ⟨a0,a1⟩:=rfl
@[simp]theorem em.eta (a:em):em.mk a.jl a.fF=a:=rfl
def em.inj{a b:em}(c:a.t=b.t):a=b:=by
 rcases a with⟨_,_⟩;rcases b with⟨_,_⟩;simp[em.t,em.cs,Vo,-em.fold]at c;simp[c]
def em.sI(a b:List em):(sl (a.map em.t)=sl (b.map em.t))=(a=b):=pG λ_ _=>em.inj
structure dZ where
 jf:Int
 cond:Int
 atomic:Bool
 deriving DecidableEq,Inhabited
def dZ.cs(a:dZ):List T:=[G a.jf,G a.cond,.bool a.atomic]
def dZ.t(a:dZ):T:= .agg a.cs
@[simp]def dZ.ag (a:dZ):rn a.t [G a.jf,G a.cond,.bool a.atomic] 3:=C2
@[simp]theorem dZ.fold (a0 a1:Int) (a2:Bool):T.agg [G a0,G a1,.bool a2]=dZ.t ⟨a0,a1,a2⟩:=rfl
@[simp]theorem dZ.eta (a:dZ):dZ.mk a.jf a.cond a.atomic=a:=rfl
def dZ.inj{a b:dZ}(c:a.t=b.t):a=b:=by
 rcases a with⟨_,_,_⟩;rcases b with⟨_,_,_⟩;simp[dZ.t,dZ.cs,-dZ.fold]at c;simp[c]
def dZ.sI(a b:List dZ):(sl (a.map dZ.t)=sl (b.map dZ.t))=(a=b):=pG λ_ _=>dZ.inj
structure gh where
 fj:List em
 tx:Int
 done:List Bool
 dW:List dZ
 deriving DecidableEq,Inhabited
def gh.cs(a:gh):List T:=[sl (a.fj.map em.t),G a.tx,sl (a.done.map T.bool),sl (a.dW.map dZ.t)]
def gh.t(a:gh):T:= .agg a.cs
@[simp]def gh.ag (a:gh):rn a.t [sl (a.fj.map em.t),G a.tx,sl (a.done.map T.bool),sl (a.dW.map dZ.t)] 4:=C2
@[simp]theorem gh.fold (a0:List em) (a1:Int) (a2:List Bool) (a3:List dZ):T.agg [sl (a0.map em.t),G a1,sl (a2.map T.bool),sl (a3.map dZ.t)]=gh.t ⟨a0,a1,a2,a3⟩:=rfl
@[simp]theorem gh.eta (a:gh):gh.mk a.fj a.tx a.done a.dW=a:=rfl
def gh.inj{a b:gh}(c:a.t=b.t):a=b:=by
 rcases a with⟨_,_,_,_⟩;rcases b with⟨_,_,_,_⟩;simp[gh.t,gh.cs,em.sI,dZ.sI,slB,-gh.fold]at c;simp[c]
def gh.sI(a b:List gh):(sl (a.map gh.t)=sl (b.map gh.t))=(a=b):=pG λ_ _=>gh.inj
structure fJ where
 fN:gh
 cells:List Int
 fa:List Int
 count:List Int
 deriving DecidableEq,Inhabited
def fJ.cs(a:fJ):List T:=[sl (a.fN.fj.map em.t),G a.fN.tx,sl (a.fN.done.map T.bool),sl (a.fN.dW.map dZ.t),sl (a.cells.map (T.int .i64)),sl (a.fa.map (T.int .i64)),sl (a.count.map (T.int .i64))]
def fJ.t(a:fJ):T:= .agg a.cs
@[simp]def fJ.ag (a:fJ):rn a.t [sl (a.fN.fj.map em.t),G a.fN.tx,sl (a.fN.done.map T.bool),sl (a.fN.dW.map dZ.t),sl (a.cells.map (T.int .i64)),sl (a.fa.map (T.int .i64)),sl (a.count.map (T.int .i64))] 7:=C2
@[simp]theorem fJ.fold (a0:List em) (a1:Int) (a2:List Bool) (a3:List dZ) (a4 a5 a:List Int):T.agg [sl (a0.map em.t),G a1,sl (a2.map T.bool),sl (a3.map dZ.t),sl (a4.map (T.int .i64)),sl (a5.map (T.int .i64)),sl (a.map (T.int .i64))]=fJ.t ⟨⟨a0,a1,a2,a3⟩,a4,a5,a⟩:=rfl
@[simp]theorem fJ.eta (a:fJ):fJ.mk a.fN a.cells a.fa a.count=a:=rfl
def fJ.inj{a b:fJ}(c:a.t=b.t):a=b:=by
 rcases a with⟨⟨_,_,_,_⟩,_,_,_⟩;rcases b with⟨⟨_,_,_,_⟩,_,_,_⟩;simp[fJ.t,fJ.cs,em.sI,dZ.sI,slB,Vo,-fJ.fold]at c;simp[c]
structure fk where
 eg:Int
 kind:Int
 obj:Int
 value:Int
 jK:Int
 mE:List Int
 tQ:List Int
 deriving DecidableEq,Inhabited
def fk.cs(a:fk):List T:=[G a.eg,G a.kind,G a.obj,G a.value,G a.jK,sl (a.mE.map (T.int .i64)),sl (a.tQ.map (T.int .i64))]
def fk.t(a:fk):T:= .agg a.cs
@[simp]def fk.ag (a:fk):rn a.t [G a.eg,G a.kind,G a.obj,G a.value,G a.jK,sl (a.mE.map (T.int .i64)),sl (a.tQ.map (T.int .i64))] 7:=C2
@[simp]theorem fk.fold (a0 a1 a2 a3 a4:Int) (a5 a:List Int):T.agg [G a0,G a1,G a2,G a3,G a4,sl (a5.map (T.int .i64)),sl (a.map (T.int .i64))]=fk.t ⟨a0,a1,a2,a3,a4,a5,a⟩:=rfl
@[simp]theorem fk.eta (a:fk):fk.mk a.eg a.kind a.obj a.value a.jK a.mE a.tQ=a:=rfl
def fk.inj{a b:fk}(c:a.t=b.t):a=b:=by
 rcases a with⟨_,_,_,_,_,_,_⟩;rcases b with⟨_,_,_,_,_,_,_⟩;simp[fk.t,fk.cs,Vo,-fk.fold]at c;simp[c]
def fk.sI(a b:List fk):(sl (a.map fk.t)=sl (b.map fk.t))=(a=b):=pG λ_ _=>fk.inj
structure ej where
 fq:fc
 start:Int
 jG:fJ
 dY:List fk
 deriving DecidableEq,Inhabited
def ej.cs(a:ej):List T:=[sl (a.fq.cells.map iK.t),sl (a.fq.fj.map ja.t),sl (a.fq.iB.map jq.t),sl (a.fq.fa.map T.str),sl (a.fq.dW.map T.str),sl (a.fq.ji.map jc.t),G a.start,sl (a.jG.fN.fj.map em.t),G a.jG.fN.tx,sl (a.jG.fN.done.map T.bool),sl (a.jG.fN.dW.map dZ.t),sl (a.jG.cells.map (T.int .i64)),sl (a.jG.fa.map (T.int .i64)),sl (a.jG.count.map (T.int .i64)),sl (a.dY.map fk.t)]
def ej.t(a:ej):T:= .agg a.cs
@[simp]def ej.ag (a:ej):rn a.t [sl (a.fq.cells.map iK.t),sl (a.fq.fj.map ja.t),sl (a.fq.iB.map jq.t),sl (a.fq.fa.map T.str),sl (a.fq.dW.map T.str),sl (a.fq.ji.map jc.t),G a.start,sl (a.jG.fN.fj.map em.t),G a.jG.fN.tx,sl (a.jG.fN.done.map T.bool),sl (a.jG.fN.dW.map dZ.t),sl (a.jG.cells.map (T.int .i64)),sl (a.jG.fa.map (T.int .i64)),sl (a.jG.count.map (T.int .i64)),sl (a.dY.map fk.t)] 15:=C2
@[simp]theorem ej.fold (a0:List iK) (a1:List ja) (a2:List jq) (a3 a4:List (List Nat)) (a5:List jc) (f:Int) (g:List em) (h:Int) (i:List Bool) (a:List dZ) (b c d:List Int) (e:List fk):T.agg [sl (a0.map iK.t),sl (a1.map ja.t),sl (a2.map jq.t),sl (a3.map T.str),sl (a4.map T.str),sl (a5.map jc.t),G f,sl (g.map em.t),G h,sl (i.map T.bool),sl (a.map dZ.t),sl (b.map (T.int .i64)),sl (c.map (T.int .i64)),sl (d.map (T.int .i64)),sl (e.map fk.t)]=ej.t ⟨⟨a0,a1,a2,a3,a4,a5⟩,f,⟨⟨g,h,i,a⟩,b,c,d⟩,e⟩:=rfl
@[simp]theorem ej.eta (a:ej):ej.mk a.fq a.start a.jG a.dY=a:=rfl
def ej.inj{a b:ej}(c:a.t=b.t):a=b:=by
 rcases a with⟨⟨_,_,_,_,_,_⟩,_,⟨⟨_,_,_,_⟩,_,_,_⟩,_⟩;rcases b with⟨⟨_,_,_,_,_,_⟩,_,⟨⟨_,_,_,_⟩,_,_,_⟩,_⟩;simp[ej.t,ej.cs,iK.sI,jq.sI,fk.sI,ja.sI,em.sI,jc.sI,dZ.sI,slB,Vo,slS,-ej.fold]at c;simp[c]
structure iX where
 kind:Int
 a:Int
 b:Int
 c:Int
 d:Int
 kc:List Int
 deriving DecidableEq,Inhabited
def iX.cs(e:iX):List T:=[G e.kind,G e.a,G e.b,G e.c,G e.d,sl (e.kc.map (T.int .i64))]
def iX.t(a:iX):T:= .agg a.cs
@[simp]def iX.ag (e:iX):rn e.t [G e.kind,G e.a,G e.b,G e.c,G e.d,sl (e.kc.map (T.int .i64))] 6:=C2
@[simp]theorem iX.fold (a0 a1 a2 a3 a4:Int) (a5:List Int):T.agg [G a0,G a1,G a2,G a3,G a4,sl (a5.map (T.int .i64))]=iX.t ⟨a0,a1,a2,a3,a4,a5⟩:=rfl
@[simp]theorem iX.eta (e:iX):iX.mk e.kind e.a e.b e.c e.d e.kc=e:=rfl
def iX.inj{a b:iX}(c:a.t=b.t):a=b:=by
 rcases a with⟨_,_,_,_,_,_⟩;rcases b with⟨_,_,_,_,_,_⟩;simp[iX.t,iX.cs,Vo,-iX.fold]at c;simp[c]
structure kV where
 fq:fc
 dY:List fk
 deriving DecidableEq,Inhabited
def kV.cs(a:kV):List T:=[sl (a.fq.cells.map iK.t),sl (a.fq.fj.map ja.t),sl (a.fq.iB.map jq.t),sl (a.fq.fa.map T.str),sl (a.fq.dW.map T.str),sl (a.fq.ji.map jc.t),sl (a.dY.map fk.t)]
def kV.t(a:kV):T:= .agg a.cs
@[simp]def kV.ag (a:kV):rn a.t [sl (a.fq.cells.map iK.t),sl (a.fq.fj.map ja.t),sl (a.fq.iB.map jq.t),sl (a.fq.fa.map T.str),sl (a.fq.dW.map T.str),sl (a.fq.ji.map jc.t),sl (a.dY.map fk.t)] 7:=C2
@[simp]theorem kV.fold (a0:List iK) (a1:List ja) (a2:List jq) (a3 a4:List (List Nat)) (a5:List jc) (a:List fk):T.agg [sl (a0.map iK.t),sl (a1.map ja.t),sl (a2.map jq.t),sl (a3.map T.str),sl (a4.map T.str),sl (a5.map jc.t),sl (a.map fk.t)]=kV.t ⟨⟨a0,a1,a2,a3,a4,a5⟩,a⟩:=rfl
@[simp]theorem kV.eta (a:kV):kV.mk a.fq a.dY=a:=rfl
def kV.inj{a b:kV}(c:a.t=b.t):a=b:=by
 rcases a with⟨⟨_,_,_,_,_,_⟩,_⟩;rcases b with⟨⟨_,_,_,_,_,_⟩,_⟩;simp[kV.t,kV.cs,iK.sI,jq.sI,fk.sI,ja.sI,jc.sI,slS,-kV.fold]at c;simp[c]
structure gY where
 w:ej
 D4:List gh
 deriving DecidableEq,Inhabited
def gY.cs(a:gY):List T:=[sl (a.w.fq.cells.map iK.t),sl (a.w.fq.fj.map ja.t),sl (a.w.fq.iB.map jq.t),sl (a.w.fq.fa.map T.str),sl (a.w.fq.dW.map T.str),sl (a.w.fq.ji.map jc.t),G a.w.start,sl (a.w.jG.fN.fj.map em.t),G a.w.jG.fN.tx,sl (a.w.jG.fN.done.map T.bool),sl (a.w.jG.fN.dW.map dZ.t),sl (a.w.jG.cells.map (T.int .i64)),sl (a.w.jG.fa.map (T.int .i64)),sl (a.w.jG.count.map (T.int .i64)),sl (a.w.dY.map fk.t),sl (a.D4.map gh.t)]
def gY.t(a:gY):T:= .agg a.cs
@[simp]def gY.ag (a:gY):rn a.t [sl (a.w.fq.cells.map iK.t),sl (a.w.fq.fj.map ja.t),sl (a.w.fq.iB.map jq.t),sl (a.w.fq.fa.map T.str),sl (a.w.fq.dW.map T.str),sl (a.w.fq.ji.map jc.t),G a.w.start,sl (a.w.jG.fN.fj.map em.t),G a.w.jG.fN.tx,sl (a.w.jG.fN.done.map T.bool),sl (a.w.jG.fN.dW.map dZ.t),sl (a.w.jG.cells.map (T.int .i64)),sl (a.w.jG.fa.map (T.int .i64)),sl (a.w.jG.count.map (T.int .i64)),sl (a.w.dY.map fk.t),sl (a.D4.map gh.t)] 16:=C2
@[simp]theorem gY.fold (a0:List iK) (a1:List ja) (a2:List jq) (a3 a4:List (List Nat)) (a5:List jc) (g:Int) (h:List em) (i:Int) (j:List Bool) (a:List dZ) (b c d:List Int) (e:List fk) (f:List gh):T.agg [sl (a0.map iK.t),sl (a1.map ja.t),sl (a2.map jq.t),sl (a3.map T.str),sl (a4.map T.str),sl (a5.map jc.t),G g,sl (h.map em.t),G i,sl (j.map T.bool),sl (a.map dZ.t),sl (b.map (T.int .i64)),sl (c.map (T.int .i64)),sl (d.map (T.int .i64)),sl (e.map fk.t),sl (f.map gh.t)]=gY.t ⟨⟨⟨a0,a1,a2,a3,a4,a5⟩,g,⟨⟨h,i,j,a⟩,b,c,d⟩,e⟩,f⟩:=rfl
@[simp]theorem gY.eta (a:gY):gY.mk a.w a.D4=a:=rfl
def gY.inj{a b:gY}(c:a.t=b.t):a=b:=by
 rcases a with⟨⟨⟨_,_,_,_,_,_⟩,_,⟨⟨_,_,_,_⟩,_,_,_⟩,_⟩,_⟩;rcases b with⟨⟨⟨_,_,_,_,_,_⟩,_,⟨⟨_,_,_,_⟩,_,_,_⟩,_⟩,_⟩;simp[gY.t,gY.cs,iK.sI,jq.sI,fk.sI,ja.sI,em.sI,jc.sI,gh.sI,dZ.sI,slB,Vo,slS,-gY.fold]at c;simp[c]
structure io where
 op:Int
 a:Int
 b:Int
 c:Int
 n:Int
 jK:Int
 deriving DecidableEq,Inhabited
def io.cs(d:io):List T:=[G d.op,G d.a,G d.b,G d.c,G d.n,G d.jK]
def io.t(a:io):T:= .agg a.cs
@[simp]def io.ag (d:io):rn d.t [G d.op,G d.a,G d.b,G d.c,G d.n,G d.jK] 6:=C2
@[simp]theorem io.fold (a0 a1 a2 a3 a4 a5:Int):T.agg [G a0,G a1,G a2,G a3,G a4,G a5]=io.t ⟨a0,a1,a2,a3,a4,a5⟩:=rfl
@[simp]theorem io.eta (d:io):io.mk d.op d.a d.b d.c d.n d.jK=d:=rfl
def io.inj{a b:io}(c:a.t=b.t):a=b:=by
 rcases a with⟨_,_,_,_,_,_⟩;rcases b with⟨_,_,_,_,_,_⟩;simp[io.t,io.cs,-io.fold]at c;simp[c]
def io.sI(a b:List io):(sl (a.map io.t)=sl (b.map io.t))=(a=b):=pG λ_ _=>io.inj
structure im where
 jy:Int
 jO:List io
 deriving DecidableEq,Inhabited
def im.cs(a:im):List T:=[G a.jy,sl (a.jO.map io.t)]
def im.t(a:im):T:= .agg a.cs
@[simp]def im.ag (a:im):rn a.t [G a.jy,sl (a.jO.map io.t)] 2:=C2
@[simp]theorem im.fold (a0:Int) (a1:List io):T.agg [G a0,sl (a1.map io.t)]=im.t ⟨a0,a1⟩:=rfl
@[simp]theorem im.eta (a:im):im.mk a.jy a.jO=a:=rfl
def im.inj{a b:im}(c:a.t=b.t):a=b:=by
 rcases a with⟨_,_⟩;rcases b with⟨_,_⟩;simp[im.t,im.cs,io.sI,-im.fold]at c;simp[c]
def im.sI(a b:List im):(sl (a.map im.t)=sl (b.map im.t))=(a=b):=pG λ_ _=>im.inj
structure ky where
 fq:fc
 dW:List im
 deriving DecidableEq,Inhabited
def ky.cs(a:ky):List T:=[sl (a.fq.cells.map iK.t),sl (a.fq.fj.map ja.t),sl (a.fq.iB.map jq.t),sl (a.fq.fa.map T.str),sl (a.fq.dW.map T.str),sl (a.fq.ji.map jc.t),sl (a.dW.map im.t)]
def ky.t(a:ky):T:= .agg a.cs
@[simp]def ky.ag (a:ky):rn a.t [sl (a.fq.cells.map iK.t),sl (a.fq.fj.map ja.t),sl (a.fq.iB.map jq.t),sl (a.fq.fa.map T.str),sl (a.fq.dW.map T.str),sl (a.fq.ji.map jc.t),sl (a.dW.map im.t)] 7:=C2
@[simp]theorem ky.fold (a0:List iK) (a1:List ja) (a2:List jq) (a3 a4:List (List Nat)) (a5:List jc) (a:List im):T.agg [sl (a0.map iK.t),sl (a1.map ja.t),sl (a2.map jq.t),sl (a3.map T.str),sl (a4.map T.str),sl (a5.map jc.t),sl (a.map im.t)]=ky.t ⟨⟨a0,a1,a2,a3,a4,a5⟩,a⟩:=rfl
@[simp]theorem ky.eta (a:ky):ky.mk a.fq a.dW=a:=rfl
def ky.inj{a b:ky}(c:a.t=b.t):a=b:=by
 rcases a with⟨⟨_,_,_,_,_,_⟩,_⟩;rcases b with⟨⟨_,_,_,_,_,_⟩,_⟩;simp[ky.t,ky.cs,iK.sI,jq.sI,ja.sI,jc.sI,im.sI,slS,-ky.fold]at c;simp[c]
structure fH where
 pC:Int
 jy:List Int
 kM:List (List Int)
 dY:Int
 deriving DecidableEq,Inhabited
def fH.cs(a:fH):List T:=[G a.pC,sl (a.jy.map (T.int .i64)),sl (a.kM.map (λb=>sl (b.map (T.int .i64)))),G a.dY]
def fH.t(a:fH):T:= .agg a.cs
@[simp]def fH.ag (a:fH):rn a.t [G a.pC,sl (a.jy.map (T.int .i64)),sl (a.kM.map (λb=>sl (b.map (T.int .i64)))),G a.dY] 4:=C2
@[simp]theorem fH.fold (a0:Int) (a1:List Int) (a2:List (List Int)) (a3:Int):T.agg [G a0,sl (a1.map (T.int .i64)),sl (a2.map (λa=>sl (a.map (T.int .i64)))),G a3]=fH.t ⟨a0,a1,a2,a3⟩:=rfl
@[simp]theorem fH.eta (a:fH):fH.mk a.pC a.jy a.kM a.dY=a:=rfl
def fH.inj{a b:fH}(c:a.t=b.t):a=b:=by
 rcases a with⟨_,_,_,_⟩;rcases b with⟨_,_,_,_⟩;simp only[fH.t,fH.cs,T.agg.injEq,bV]at c;obtain⟨d,e,f,g,_⟩:=c;obtain rfl:=E5 d;obtain rfl:=D9 (λ_ _=>E5) _ _ e;obtain rfl:=D9 (D9 (λ_ _=>E5)) _ _ f;obtain rfl:=E5 g;rfl
def fH.sI(a b:List fH):(sl (a.map fH.t)=sl (b.map fH.t))=(a=b):=pG λ_ _=>fH.inj
structure jo where
 fN:gh
 cells:List Int
 fa:List Int
 dW:List fH
 deriving DecidableEq,Inhabited
def jo.cs(a:jo):List T:=[sl (a.fN.fj.map em.t),G a.fN.tx,sl (a.fN.done.map T.bool),sl (a.fN.dW.map dZ.t),sl (a.cells.map (T.int .i64)),sl (a.fa.map (T.int .i64)),sl (a.dW.map fH.t)]
def jo.t(a:jo):T:= .agg a.cs
@[simp]def jo.ag (a:jo):rn a.t [sl (a.fN.fj.map em.t),G a.fN.tx,sl (a.fN.done.map T.bool),sl (a.fN.dW.map dZ.t),sl (a.cells.map (T.int .i64)),sl (a.fa.map (T.int .i64)),sl (a.dW.map fH.t)] 7:=C2
@[simp]theorem jo.fold (a0:List em) (a1:Int) (a2:List Bool) (a3:List dZ) (a4 a5:List Int) (a:List fH):T.agg [sl (a0.map em.t),G a1,sl (a2.map T.bool),sl (a3.map dZ.t),sl (a4.map (T.int .i64)),sl (a5.map (T.int .i64)),sl (a.map fH.t)]=jo.t ⟨⟨a0,a1,a2,a3⟩,a4,a5,a⟩:=rfl
@[simp]theorem jo.eta (a:jo):jo.mk a.fN a.cells a.fa a.dW=a:=rfl
def jo.inj{a b:jo}(c:a.t=b.t):a=b:=by
 rcases a with⟨⟨_,_,_,_⟩,_,_,_⟩;rcases b with⟨⟨_,_,_,_⟩,_,_,_⟩;simp[jo.t,jo.cs,em.sI,fH.sI,dZ.sI,slB,Vo,-jo.fold]at c;simp[c]
structure gJ where
 eg:Int
 rL:Int
 deriving DecidableEq,Inhabited
def gJ.cs(a:gJ):List T:=[G a.eg,G a.rL]
def gJ.t(a:gJ):T:= .agg a.cs
@[simp]def gJ.ag (a:gJ):rn a.t [G a.eg,G a.rL] 2:=C2
@[simp]theorem gJ.fold (a0 a1:Int):T.agg [G a0,G a1]=gJ.t ⟨a0,a1⟩:=rfl
@[simp]theorem gJ.eta (a:gJ):gJ.mk a.eg a.rL=a:=rfl
def gJ.inj{a b:gJ}(c:a.t=b.t):a=b:=by
 rcases a with⟨_,_⟩;rcases b with⟨_,_⟩;simp[gJ.t,gJ.cs,-gJ.fold]at c;simp[c]
structure iY where
 kind:Int
 wU:Int
 name:List Nat
 size:Int
 jG:Int
 on:List Nat
 deriving DecidableEq,Inhabited
def iY.cs(a:iY):List T:=[G a.kind,G a.wU,.str a.name,G a.size,G a.jG,.str a.on]
def iY.t(a:iY):T:= .agg a.cs
@[simp]def iY.ag (a:iY):rn a.t [G a.kind,G a.wU,.str a.name,G a.size,G a.jG,.str a.on] 6:=C2
@[simp]theorem iY.fold (a0 a1:Int) (a2:List Nat) (a3 a4:Int) (a5:List Nat):T.agg [G a0,G a1,.str a2,G a3,G a4,.str a5]=iY.t ⟨a0,a1,a2,a3,a4,a5⟩:=rfl
@[simp]theorem iY.eta (a:iY):iY.mk a.kind a.wU a.name a.size a.jG a.on=a:=rfl
def iY.inj{a b:iY}(c:a.t=b.t):a=b:=by
 rcases a with⟨_,_,_,_,_,_⟩;rcases b with⟨_,_,_,_,_,_⟩;simp[iY.t,iY.cs,-iY.fold]at c;simp[c]
structure fV where
 value:Int
 known:Bool
 deriving DecidableEq,Inhabited
def fV.cs(a:fV):List T:=[G a.value,.bool a.known]
def fV.t(a:fV):T:= .agg a.cs
@[simp]def fV.ag (a:fV):rn a.t [G a.value,.bool a.known] 2:=C2
@[simp]theorem fV.fold (a0:Int) (a1:Bool):T.agg [G a0,.bool a1]=fV.t ⟨a0,a1⟩:=rfl
@[simp]theorem fV.eta (a:fV):fV.mk a.value a.known=a:=rfl
def fV.inj{a b:fV}(c:a.t=b.t):a=b:=by
 rcases a with⟨_,_⟩;rcases b with⟨_,_⟩;simp[fV.t,fV.cs,-fV.fold]at c;simp[c]
def fV.sI(a b:List fV):(sl (a.map fV.t)=sl (b.map fV.t))=(a=b):=pG λ_ _=>fV.inj
structure fD where
 fN:gh
 cells:List fV
 fa:List fV
 order:List Int
 fixed:List Bool
 pZ:List Int
 deriving DecidableEq,Inhabited
def fD.cs(a:fD):List T:=[sl (a.fN.fj.map em.t),G a.fN.tx,sl (a.fN.done.map T.bool),sl (a.fN.dW.map dZ.t),sl (a.cells.map fV.t),sl (a.fa.map fV.t),sl (a.order.map (T.int .i64)),sl (a.fixed.map T.bool),sl (a.pZ.map (T.int .i64))]
def fD.t(a:fD):T:= .agg a.cs
@[simp]def fD.ag (a:fD):rn a.t [sl (a.fN.fj.map em.t),G a.fN.tx,sl (a.fN.done.map T.bool),sl (a.fN.dW.map dZ.t),sl (a.cells.map fV.t),sl (a.fa.map fV.t),sl (a.order.map (T.int .i64)),sl (a.fixed.map T.bool),sl (a.pZ.map (T.int .i64))] 9:=C2
@[simp]theorem fD.fold (a0:List em) (a1:Int) (a2:List Bool) (a3:List dZ) (a4 a5:List fV) (a:List Int) (b:List Bool) (c:List Int):T.agg [sl (a0.map em.t),G a1,sl (a2.map T.bool),sl (a3.map dZ.t),sl (a4.map fV.t),sl (a5.map fV.t),sl (a.map (T.int .i64)),sl (b.map T.bool),sl (c.map (T.int .i64))]=fD.t ⟨⟨a0,a1,a2,a3⟩,a4,a5,a,b,c⟩:=rfl
@[simp]theorem fD.eta (a:fD):fD.mk a.fN a.cells a.fa a.order a.fixed a.pZ=a:=rfl
def fD.inj{a b:fD}(c:a.t=b.t):a=b:=by
 rcases a with⟨⟨_,_,_,_⟩,_,_,_,_,_⟩;rcases b with⟨⟨_,_,_,_⟩,_,_,_,_,_⟩;simp[fD.t,fD.cs,fV.sI,em.sI,dZ.sI,slB,Vo,-fD.fold]at c;simp[c]
def ju(a:Int)(b:Nat):Bool:=decide (0<=a/\a<b)
def qJ{b:Type}(c:List b)(a:Int):aa b:=if 0<=a then c[a.toNat]? else none
def fI{a:Int}{b:Nat}:ju a b=true↔0<=a/\a.toNat<b:=by unfold ju;simp;omega
def qW{a:Int}{c:Nat}(b:ju a c=false):¬(0<=a/\a.toNat<c):=λd=>by rw[fI.2 d]at b;simp at b
def iU{e:Type}{l:List e}{i:Int}(c:ju i l.length=true):∃b,l[i.toNat]? =some b/\qJ l i=some b:=by
 have⟨d,a⟩:=fI.1 c;exact⟨l[i.toNat],by simp[a],by simp[qJ,d,a]⟩
def oS{d:Type}{b:List d}{a:Int}(c:ju a b.length=false):qJ b a=none:=by
 have:=qW c;unfold qJ;split
 ·simp;omega
 ·rfl
def mn(a:fc)(b:gh):Bool:=(a.iB.all λc=>ju c.kY a.fj.length)&&decide (b.fj.length=a.fj.length)&&decide (b.done.length=a.fa.length)&&decide (b.dW.length=a.dW.length)
def jN(c:fc)(a b:Int):Bool:=
 if a=1\/a=2\/a=5\/a=12\/a=13\/a=14\/a=15 then decide (b=-1)
 else if a=3\/a=4 then ju b c.cells.length
 else if a=6\/a=7 then(match qJ c.fj b with|some d=> !d.rW|none=>false)
 else if a=8\/a=9\/a=10\/a=11 then(match qJ c.fj b with|some d=>d.rW|none=>false)
 else if a=16\/a=17\/a=18\/a=19 then ju b c.iB.length
 else if a=20\/a=21 then ju b c.dW.length
 else if a=22\/a=23 then ju b c.fa.length
 else false
def iW(a:Int):List dZ->Nat->List Int
 | [],_=>[]
 |t::c,b=>if t.jf=3/\t.cond=a then(b:Int)::iW a c (b+1)else iW a c (b+1)
def m8(b:gh)(a:Int):em:=(qJ b.fj a).getD default
def pQ(b:gh)(a:Int):dZ:=(qJ b.dW a).getD default
def uw(c:fc)(b:gh)(a:Int):em:=m8 b ((qJ c.iB a).getD default).kY
def FD(b:gh)(a:Int):Bool:=(qJ b.done a).getD false
def Ao(e:fc)(a:gh)(d b c:Int):Bool:=
 if b=1 then decide ((pQ a d).jf=1)
 else if b=17 then decide ((pQ a d).jf=4)&&decide ((pQ a d).cond=c)&&decide ((uw e a c).jl=-1)
 else if¬(pQ a d).jf=2 then false
 else if b=6 then decide ((m8 a c).jl=-1)
 else if b=10 then decide ((m8 a c).jl=-1)&&decide ((m8 a c).fF=[])
 else if b=8 then decide ((m8 a c).jl=-1)&& !decide (d∈(m8 a c).fF)
 else if b=7\/b=11 then decide ((m8 a c).jl=d)
 else if b=9 then decide (d∈(m8 a c).fF)
 else if b=12 then decide (a.tx=-1)
 else if b=13 then decide (a.tx=d)
 else if b=14 then !(pQ a d).atomic
 else if b=15 then(pQ a d).atomic
 else if b=16\/b=18\/b=19 then decide ((uw e a c).jl=d)
 else if b=20 then !decide (c=d)&&decide ((pQ a c).jf=0)
 else if b=21 then !decide (c=d)&&decide ((pQ a c).jf=5)
 else if b=22 then !FD a c
 else if b=23 then FD a c
 else true
def je(a:fc)(d:gh)(e b c:Int):Bool:=mn a d&&ju e a.dW.length&&jN a b c&&Ao a d e b c
def mF{c:fc}{b:gh}(a:mn c b=true):b.fj.length=c.fj.length/\b.done.length=c.fa.length/\b.dW.length=c.dW.length:=by
 unfold mn at a;simp at a;exact⟨a.1.1.2,a.1.2,a.2⟩
def uu{c:fc}{f:gh}(b:mn c f=true){e:Nat}{a:jq}(d:c.iB[e]? =some a):ju a.kY c.fj.length=true:=by
 unfold mn at b;simp at b;exact b.1.1.1 a (ay d)
def tK{d:fc}{a c:Int}(b:jN d a c=true):a=1\/a=2\/a=3\/a=4\/a=5\/a=12\/a=13\/a=14\/a=15\/(a=6\/a=7\/a=8\/a=9\/a=10\/a=11)\/(a=16\/a=17\/a=18\/a=19)\/(a=20\/a=21)\/(a=22\/a=23):=by
 by_cases e:1<=a/\a<=23
 ·omega
 ·exfalso;unfold jN at b;rw[ao D,ao D,ao D,ao D,ao D,ao D,ao D]at b;simp at b
def nz{d:fc}{a c:Int}(b:jN d a c=true)(e:a=6\/a=7\/a=8\/a=9\/a=10\/a=11):ju c d.fj.length=true:=by
 cases hl:ju c d.fj.length with
 |true=>rfl
 |false=>
  unfold jN at b;rw[ao D,ao D]at b;rcases e with rfl|rfl|rfl|rfl|rfl|rfl<;>simp[oS hl]at b
def pL{d:fc}{a c:Int}(b:jN d a c=true)(e:a=16\/a=17\/a=18\/a=19):ju c d.iB.length=true:=by
 unfold jN at b;rwa[ao D,ao D,ao D,ao D,aq e]at b
def yM{d:fc}{a c:Int}(b:jN d a c=true)(e:a=20\/a=21):ju c d.dW.length=true:=by
 unfold jN at b;rwa[ao D,ao D,ao D,ao D,ao D,aq e]at b
def tL{d:fc}{a c:Int}(b:jN d a c=true)(e:a=22\/a=23):ju c d.fa.length=true:=by
 unfold jN at b;rwa[ao D,ao D,ao D,ao D,ao D,ao D,aq e]at b
def gh.sm(a:gh):Prop:=a.fj.length<=1099511627776/\a.done.length<=1099511627776/\a.dW.length<=1099511627776/\∀b∈a.fj,b.fF.length<=1000000000000
def gh.qB(a:gh)(i:Int)(b:dZ->dZ):gh:={a with dW:=a.dW.modify i.toNat b}
def gh.qF(a:gh)(c:Int)(b:em->em):gh:={a with fj:=a.fj.modify c.toNat b}
def lx(a:Int)(b:dZ):dZ:={b with jf:=a}
def ng:List Int->Int->List Int
 | [],a=>[a]
 |x::b,a=>if x<a then x::ng b a else if x=a then x::b else a::x::b
def AB(a c:Int)(b:List dZ):Int:=if c∈iW a b 0 then c else(iW a b 0).headD (-1)
def fO(g:fc)(a:gh)(f b c h:Int):gh×Int:=
 if b=1 then(a.qB f (lx 2),0)
 else if b=2 then(a.qB f (lx 5),0)
 else if b=6\/b=10 then(a.qF c λd=>{d with jl:=f},0)
 else if b=7\/b=11 then(a.qF c λd=>{d with jl:=-1},0)
 else if b=8 then(a.qF c λd=>{d with fF:=ng d.fF f},0)
 else if b=9 then(a.qF c λd=>{d with fF:=d.fF.filter λi=> !decide (i=f)},0)
 else if b=12 then({a with tx:=f},0)
 else if b=13 then({a with tx:=-1},0)
 else if b=14 then(a.qB f λe=>{e with atomic:=true},0)
 else if b=15 then(a.qB f λe=>{e with atomic:=false},0)
 else if b=16 then((a.qF ((qJ g.iB c).getD default).kY λd=>{d with jl:=-1}).qB f λe=>{e with jf:=3,cond:=c},0)
 else if b=17 then((a.qF ((qJ g.iB c).getD default).kY λd=>{d with jl:=f}).qB f λe=>{e with jf:=2,cond:=0},0)
 else if b=18 then(if iW c a.dW 0=[]then(a,-1)else(a.qB (AB c h a.dW) (lx 4),AB c h a.dW))
 else if b=19 then({a with dW:=a.dW.map λe=>if e.jf=3/\e.cond=c then lx 4 e else e},(iW c a.dW 0).length)
 else if b=20 then(a.qB c (lx 1),0)
 else if b=22 then({a with done:=a.done.set c.toNat true},0)
 else(a,0)
def Lj(a:List Int):Prop:=a.Pairwise (· < ·)
def gh.BL(b:gh):Prop:=∀a∈b.fj,Lj a.fF
def E6{a:List Int}{c b:Int}(h:b∈ng a c):b∈a\/b=c:=by
 induction a with
 |nil=>simp[ng]at h;exact .inr h
 |cons e a d=>
  unfold ng at h;split at h
  ·rcases List.mem_cons.1 h with rfl|h
   ·exact .inl Y
   ·rcases d h with h|h
    ·exact .inl (by simp[h])
    ·exact .inr h
  ·split at h
   ·exact .inl h
   ·rcases List.mem_cons.1 h with rfl|h
    ·exact .inr rfl
    ·exact .inl h
def E7{b:List Int}(a:Lj b)(e:Int):Lj (ng b e):=by
 induction b with
 |nil=>simp[ng,Lj]
 |cons f b d=>
  unfold Lj at*
  rw[dD]at a;unfold ng;split
  ·rw[dD];refine⟨λc hx=>?_,d a.2⟩;rcases E6 hx with hx|rfl
   ·exact a.1 c hx
   ·assumption
  ·split
   ·rw[dD];exact a
   ·rw[dD,dD];refine⟨λc hx=>?_,a⟩;rcases List.mem_cons.1 hx with rfl|hx
    ·omega
    ·have:=a.1 c hx;omega
def Ku(a:List Int)(b:Int):(ng a b).length<=a.length+1:=by
 induction a with
 |nil=>simp[ng]
 |cons d a c=>unfold ng;split<;>(try split)<;>simp<;>omega
def mem_modify{c:Type}{b:List c}{i:Nat}{g:c->c}{e:c}(h:e∈b.modify i g):e∈b\/∃f∈b,e=g f:=by
 have⟨j,a⟩:=List.mem_iff_getElem?.1 h;rw[dE]at a;split at a
 ·cases d:b[j]? with
  |none=>rw[d]at a;simp at a
  |some f=>rw[d]at a;simp at a;exact .inr ⟨f,ay d,a.symm⟩
 ·exact .inl (ay (by simpa using a))
def Wg{b:gh}(d:b.BL){h:Int}{c:em->em}(f:∀a∈b.fj,Lj (c a).fF):(b.qF h c).BL:=by
 intro a hl;rcases mem_modify hl with e|⟨i,g,rfl⟩
 ·exact d a e
 ·exact f i g
def sh{e:Type}(b:e->Prop){a:Prop} [Decidable a]{c d:e}(f:a->b c)(g:¬a->b d):b (if a then c else d):=by
 split
 ·exact f (by assumption)
 ·exact g (by assumption)
def xl{P:gh×Int->Prop}{p:fc}{b:gh}{e m g q:Int}(p0:P (b,0))(p1:P (b,-1))(pt:∀h c d,P (b.qB h c,d))(f:∀h c,(∀a,(c a).fF=a.fF\/(c a).fF=ng a.fF e\/(c a).fF=a.fF.filter λi=> !decide (i=e))->P (b.qF h c,0)/\∀l k,P ((b.qF h c).qB l k,0))
 (j:∀d,P ({b with tx:=d},0)) (o:∀c d,P ({b with dW:=b.dW.map c},d)) (n:∀d,P ({b with done:=b.done.set d true},0)):P (fO p b e m g q):=by
 unfold fO;refine sh P (λ_=>pt _ _ _) λ_=>?_;refine sh P (λ_=>pt _ _ _) λ_=>?_;refine sh P (λ_=>(f g (λa=>{a with jl:=e}) λ_=> .inl rfl).1) λ_=>?_;refine sh P (λ_=>(f g (λa=>{a with jl:=-1}) λ_=> .inl rfl).1) λ_=>?_;refine sh P (λ_=>(f g (λa=>{a with fF:=ng a.fF e}) λ_=> .inr (.inl rfl)).1) λ_=>?_;refine sh P (λ_=>(f g (λa=>{a with fF:=a.fF.filter λi=> !decide (i=e)}) λ_=> .inr (.inr rfl)).1) λ_=>?_;refine sh P (λ_=>j _) λ_=>?_;refine sh P (λ_=>j _) λ_=>?_;refine sh P (λ_=>pt _ _ _) λ_=>?_;refine sh P (λ_=>pt _ _ _) λ_=>?_;refine sh P (λ_=>(f _ (λa=>{a with jl:=-1}) λ_=> .inl rfl).2 _ _) λ_=>?_;refine sh P (λ_=>(f _ (λa=>{a with jl:=e}) λ_=> .inl rfl).2 _ _) λ_=>?_;refine sh P (λ_=>sh P (λ_=>p1) λ_=>pt _ _ _) λ_=>?_;refine sh P (λ_=>o _ _) λ_=>?_;refine sh P (λ_=>pt _ _ _) λ_=>?_;exact sh P (λ_=>n _) λ_=>p0
def xj{i:gh}(b:i.BL)(m:fc)(g k l n:Int):(fO m i g k l n).1.BL:=by
 have j:∀(d:Int) (c:em->em),(∀a,(c a).fF=a.fF\/(c a).fF=ng a.fF g\/(c a).fF=a.fF.filter λh=> !decide (h=g))->(i.qF d c).BL:=λd c f=>Wg b λa hl=>by
  rcases f a with e|e|e<;>rw[e]
  ·exact b a hl
  ·exact E7 (b a hl) g
  ·exact(b a hl).filter _
 exact xl (P:=λh=>h.1.BL) b b (λ_ _ _=>b) (λd c f=>⟨j d c f,λ_ _=>j d c f⟩) (λ_=>b) (λ_ _=>b) (λ_=>b)
def xi(f:fc)(a:gh)(e b c g:Int):(fO f a e b c g).1.fj.length=a.fj.length/\(fO f a e b c g).1.done.length=a.done.length/\(fO f a e b c g).1.dW.length=a.dW.length:=
 xl (P:=λd=>d.1.fj.length=a.fj.length/\d.1.done.length=a.done.length/\d.1.dW.length=a.dW.length) ⟨rfl,rfl,rfl⟩ ⟨rfl,rfl,rfl⟩ (λ_ _ _=>by simp[gh.qB]) (λ_ _ _=>by simp[gh.qB,gh.qF]) (λ_=>⟨rfl,rfl,rfl⟩) (λ_ _=>by simp) (λ_=>by simp)
def Qi{a:List Int}{b:Int}(d:∀c∈a,c<b):ng a b=a++[b]:=by
 induction a with
 |nil=>rfl
 |cons g a f=>unfold ng;rw[aq (d g Y),f λc e=>d c (by simp[e])];rfl
def Qj:∀(b a:List Int),Lj (a++b)->b.foldl ng a=a++b:=by
 intro b;induction b with
 |nil=>intro a _;simp
 |cons c b h=>
  intro a e;have f:∀d∈a,d<c:=λd g=>(List.pairwise_append.1 e).2.2 d g c Y;rw[List.foldl_cons,Qi f,h (a++[c]) (by simpa using e)];simp
def O7{a:List Int}(c:Lj a)(b:Int): [b].foldl ng (a.foldl ng [])=ng a b:=by
 rw[Qj a [] (by simpa using c)];rfl
def mD(b:fc)(a:fJ):Bool:=mn b a.fN&&decide (a.cells.length=b.cells.length)&&decide (a.fa.length=b.fa.length)&&decide (a.count.length=b.dW.length)
def xz(b:Int):aa Int->List Int->Bool
 |_,[]=>true
 |p,a::c=> !(decide (a<1))&& !(decide (b<=a))&&(match p with|some d=> !(decide (a<=d))|none=>true)&&xz b (some a) c
def oh(b:fJ)(a:fk):Bool:=
 if a.kind=3 then(match qJ b.cells a.obj with|some c=>decide (a.value=c)|none=>false)
 else if a.kind=23 then(match qJ b.fa a.obj with|some c=>decide (a.value=c)|none=>false)
 else if a.kind=5 then decide (a.value=0)||decide (a.value=1)
 else if a.kind=4\/a.kind=22 then true
 else if a.kind=18 then(if iW a.obj b.fN.dW 0=[]then decide (a.value=-1)else decide (0<=a.value)&&decide (a.value<b.fN.dW.length)&&decide (a.value∈iW a.obj b.fN.dW 0))
 else if a.kind=19 then decide (a.value=(iW a.obj b.fN.dW 0).length)
 else decide (a.value=0)
def xQ(d c:Int):List fk->Nat->Bool->Bool
 | [],_,a=>a
 |e::f,b,a=>if e.eg=d then xQ d c f (b+1) (a||(decide ((b:Int)=c)&&(decide (e.kind=3)||decide (e.kind=23))))else xQ d c f b a
def wF(a:List fk)(d:Int)(c:List Int):Bool:=c.all λb=>xQ d b a 0 false
def GG(c:Int):∀(a:List dZ) (b:Nat),(iW c a b).length<=a.length:=by
 intro a;induction a with
 |nil=>intro b;simp[iW]
 |cons e a d=>intro b;rw[iW];have:=d (b+1);split<;>simp<;>omega
def uG(a:fk):Bool:=decide (a.kind=3)||decide (a.kind=4)
def nD(a b:fk):Bool:=uG a&&uG b&&decide (a.obj=b.obj)&&(decide (a.kind=4)||decide (b.kind=4))
def sH(a:Int):Bool:=decide (a=6)||decide (a=8)||decide (a=10)||decide (a=17)||decide (a=21)
def lL(b:List fk)(a:Int):fk:=(qJ b a).getD default
def uj(a:List Int)(b:Int)(c:Nat):Int:=match a with
 | []=>-1
 |x::a=>if x=b then c else uj a b (c+1)
def L5{c:Int}:∀{a:List Int} {b:Nat},0<=uj a c b↔c∈a:=by
 intro a;induction a with
 |nil=>intro b;simp[uj]
 |cons e a d=>intro b;unfold uj;grind
structure GX where
 w:fc
 ev:List fk
 st:List gh
def GX.e(b:GX)(a:Int):fk:=lL b.ev a
def GX.s(b:GX)(a:Int):gh:=(qJ b.st a).getD default
def GX.YN(d:GX)(a b:Int)(c:fk->Bool):Bool:=((d.ev.drop a.toNat).take (b-a).toNat).all c
def GX.Cy(a:GX)(c b:Int):Bool:=
 if(a.e b).eg=(a.e c).eg then false
 else if(a.e b).kind=6\/(a.e b).kind=10 then decide ((m8 (a.s c) (a.e b).obj).jl=(a.e c).eg)||decide ((a.e c).eg∈(m8 (a.s c) (a.e b).obj).fF)
 else if(a.e b).kind=8 then decide ((m8 (a.s c) (a.e b).obj).jl=(a.e c).eg)
 else if(a.e b).kind=17 then decide ((uw a.w (a.s c) (a.e b).obj).jl=(a.e c).eg)
 else if(a.e b).kind=21 then decide ((a.e b).obj=(a.e c).eg)
 else false
def GX.sP(b:GX)(a c:Int):Bool:=sH (b.e a).kind&&b.Cy a c
def GX.QD{b:GX}{j a:Int}(c:b.Cy j a=true):sH (b.e a).kind=true:=by
 unfold GX.Cy at c;unfold sH;by_cases h:(b.e a).kind=6
 ·simp[h]
 by_cases d:(b.e a).kind=10
 ·simp[d]
 by_cases i:(b.e a).kind=8
 ·simp[i]
 by_cases f:(b.e a).kind=17
 ·simp[f]
 by_cases g:(b.e a).kind=21
 ·simp[g]
 simp[h,d,i,f,g]at c
def GX.KR(c:GX)(d:Int->Int->Bool)(a:List Int):Bool:=
 decide (2<=a.length)&&decide (a.length<=4)&&(a.all λb=>ju b c.ev.length)&&(List.range a.length).all λb=>
  !decide (a.getD b 0<a.getD 0 0)&&d (a.getD ((b+1)% a.length) 0) (a.getD b 0)&&(List.range b).all λf=> !decide ((c.e (a.getD b 0)).eg=(c.e (a.getD f 0)).eg)
def GX.TR(e:GX)(d:List Int):e.KR e.sP d=e.KR e.Cy d:=by
 unfold GX.KR;by_cases hl:2<=d.length;rotate_left
 ·simp[hl]
 congr 1;rw[bE,cz,cz];constructor
 ·intro a c f;have:=a c f;simp only[ax,GX.sP]at this|-;exact⟨⟨this.1.1,this.1.2.2⟩,this.2⟩
 ·intro a c f;have b:=a c f;have g:=a ((c+1)% d.length) (by rw[dw];exact Nat.mod_lt _ D);simp only[ax,GX.sP]at b g|-;exact⟨⟨b.1.1,GX.QD g.1.2,b.1.2⟩,b.2⟩
def GX.dead(g:GX)(f:Int->Int->Bool)(e:iX):Bool:=decide (e.a=0)&&decide (e.b=0)&&decide (e.c=0)&&decide (e.d=0)&&g.KR f e.kc
def GX.Zt(a:GX)(b c:Int):Bool:=decide (b<c)&& !decide ((a.e b).eg=(a.e c).eg)&&nD (a.e b) (a.e c)&& !((qJ a.w.cells (a.e b).obj).getD default).vL
def GX.Yx(a:GX)(b c:Int):Bool:=
 decide (c<b)&&(decide ((a.e b).kind=18)||decide ((a.e b).kind=19))&&decide ((a.e c).kind=16)&&decide ((a.e b).obj=(a.e c).obj)&& !decide ((a.e b).eg=(a.e c).eg)&&
  a.YN (c+1) b (λd=> !decide (d.eg=(a.e c).eg))&&decide ((pQ (a.s b) (a.e c).eg).jf=3)&&(decide ((a.e b).kind=19)||decide ((a.e b).value=(a.e c).eg))
def GX.Gw(b:Int)(a:fk):Bool:= !(decide (a.eg=b)&&decide (a.kind=15))
def GX.K6(b:GX)(a c:Int):Bool:=
 decide (a<c)&&decide ((b.e c).eg=(b.e a).eg)&&(pQ (b.s a) (b.e a).eg).atomic&&b.YN (a+1) c (GX.Gw (b.e a).eg)
def GX.brk(a:GX)(d f b c:Int):Bool:=
 decide (b<=c)&&decide ((a.e b).eg=(a.e c).eg)&& !decide ((a.e b).eg=(a.e d).eg)&&nD (a.e d) (a.e b)&&nD (a.e c) (a.e f)
def GX.Xe(a:GX)(b c d f:Int):Bool:=
 decide (b<c)&&decide (d<=f)&&decide ((a.e b).eg=(a.e c).eg)&&decide ((a.e d).eg=(a.e f).eg)&& !decide ((a.e b).eg=(a.e d).eg)&&nD (a.e b) (a.e d)&&nD (a.e f) (a.e c)&&
  a.YN b c (GX.Gw (a.e b).eg)&&(pQ (a.s b) (a.e b).eg).atomic
def GX.CV(b:GX)(a:Int):Bool:=ju a b.ev.length
def GX.vR(f:GX)(e:iX):Bool:=
 if e.kind=2 then f.dead f.Cy e
 else if(f.CV e.a&&f.CV e.b&&f.CV e.c&&f.CV e.d)=true then
  (
   if e.kind=1 then decide (e.c=0)&&decide (e.d=0)&&decide (e.kc=[])&&f.Zt e.a e.b
   else if e.kind=3 then decide (e.c=0)&&decide (e.d=0)&&decide (e.kc=[])&&f.Yx e.a e.b
   else if e.kind=4 then decide (e.kc=[])&&f.Xe e.a e.b e.c e.d
   else false)
 else false
def GX.vG(f:GX)(e:iX):Bool:=
 if e.kind=1 then decide (e.c=0)&&decide (e.d=0)&&decide (e.kc=[])&&(f.CV e.a&&f.CV e.b)&&f.Zt e.a e.b
 else if e.kind=2 then f.dead f.sP e
 else if e.kind=3 then decide (e.c=0)&&decide (e.d=0)&&decide (e.kc=[])&&(f.CV e.a&&f.CV e.b)&&f.Yx e.a e.b
 else if e.kind=4 then decide (e.kc=[])&&(f.CV e.a&&f.CV e.b&&f.CV e.c&&f.CV e.d)&&f.K6 e.a e.b&&f.brk e.a e.b e.c e.d
 else false
def GX.in0{a:GX}{b:Int}(c:a.CV b=true):a.CV 0=true:=by
 unfold GX.CV at*
 rw[fI]at*
 omega
def GX.aa1{b:GX}{a c g r:Int}(u:b.CV a=true):(b.K6 a c&&b.brk a c g r)=b.Xe a c g r:=by
 have w:nD (b.e a) (b.e g)=true->a<c->b.YN a c (GX.Gw (b.e a).eg)=b.YN (a+1) c (GX.Gw (b.e a).eg):=by
  intro d q;have⟨t,f⟩:=fI.1 u;unfold GX.YN;have s:b.ev.drop a.toNat=b.e a::b.ev.drop (a+1).toNat:=by
   rw[show(a+1).toNat=a.toNat+1 by omega,aH f];congr 1;unfold GX.e lL qJ;rw[aq t];simp[f]
  rw[s,show(c-a).toNat=(c-(a+1)).toNat+1 by omega,List.take_succ_cons,cB];have v:GX.Gw (b.e a).eg (b.e a)=true:=by
   unfold GX.Gw;unfold nD uG at d;simp only[ax,cr,aK]at d;rcases d.1.1.1 with h|h<;>simp[h]
  rw[v,bg]
 unfold GX.K6 GX.brk GX.Xe;by_cases d:nD (b.e a) (b.e g)=true
 ·by_cases q:a<c
  ·rw[w d q];rw[bE];simp only[ax,aK,cj,bZ];constructor
   ·rintro⟨⟨⟨⟨f,i⟩,j⟩,k⟩,⟨⟨⟨l,m⟩,n⟩,o⟩,p⟩;exact⟨⟨⟨⟨⟨⟨⟨⟨f,l⟩,i.symm⟩,m⟩,λh=>n h.symm⟩,o⟩,p⟩,k⟩,j⟩
   ·rintro⟨⟨⟨⟨⟨⟨⟨⟨f,l⟩,i⟩,m⟩,n⟩,o⟩,p⟩,k⟩,j⟩;exact⟨⟨⟨⟨f,i.symm⟩,j⟩,k⟩,⟨⟨⟨l,m⟩,λh=>n h.symm⟩,o⟩,p⟩
  ·simp[q]
 ·rw[Bool.not_eq_true]at d;simp[d]
def GX.Vc(f:GX)(e:iX):f.vG e=f.vR e:=by
 unfold GX.vG GX.vR;by_cases g:e.kind=1
 ·rw[aq g,ao D,aq g];by_cases j:e.c=0;rotate_left
  ·simp[j]
  by_cases k:e.d=0;rotate_left
  ·simp[k]
  rw[j,k];cases i:f.CV e.a with
  |false=>simp
  |true=>rw[GX.in0 i];cases f.CV e.b<;>simp
 rw[ao g];by_cases l:e.kind=2
 ·rw[aq l,aq l];unfold GX.dead;rw[GX.TR]
 rw[ao l,ao l];by_cases h:e.kind=3
 ·rw[aq h,ao g,aq h];by_cases j:e.c=0;rotate_left
  ·simp[j]
  by_cases k:e.d=0;rotate_left
  ·simp[k]
  rw[j,k];cases i:f.CV e.a with
  |false=>simp
  |true=>rw[GX.in0 i];cases f.CV e.b<;>simp
 rw[ao h];by_cases m:e.kind=4
 ·rw[aq m,ao g,ao h,aq m];cases i:f.CV e.a with
  |false=>simp
  |true=>
   rw[<-GX.aa1 i];cases (f.CV e.b)<;>cases f.CV e.c<;>cases f.CV e.d<;>simp[Bool.and_assoc]
 rw[ao m,ao g,ao h,ao m];simp
def gC(a:List Int):iX:=⟨2,0,0,0,0,a⟩
def kf(a b:Nat):List Nat:=List.range' a (b-a)
def DI(d:Nat)(b:List Int->Bool)(go:List Int->Int->Bool):Nat->List Int->List (List Int)
 |0,a=>if b a=true then [a]else []
 |k+1,a=>(if b a=true then [a]else [])++(kf ((a.getD 0 0).toNat+1) d).flatMap λ(c:Nat)=>if go a c=true then DI d b go k (a++[(c:Int)])else []
def Od{k:Nat}{e:List Int->Bool}{go:List Int->Int->Bool}:∀(b:Nat) (c a:List Int),a∈DI k e go b c->e a=true/\∃d,a=c++d:=by
 intro b;induction b with
 |zero=>
  intro c a h;unfold DI at h;split at h
  ·simp at h;subst h;exact⟨by assumption,[],Y⟩
  ·simp at h
 |succ b i=>
  intro c a h;unfold DI at h;rw[List.mem_append]at h;rcases h with h|h
  ·split at h
   ·simp at h;subst h;exact⟨by assumption,[],Y⟩
   ·simp at h
  ·rw[cH]at h;obtain⟨j,_,h⟩:=h;split at h
   ·have⟨f,d,g⟩:=i _ _ h;exact⟨f,(j:Int)::d,by rw[g];simp⟩
   ·simp at h
def Oe{n:Nat}{ok:List Int->Bool}{go:List Int->Int->Bool}(g:∀(a e:List Int) (b:Int),ok (a++b::e)=true->go a b=true):∀(c:Nat) (a:List Int),DI n ok go c a=DI n ok (λ_ _=>true) c a:=by
 intro c;induction c with
 |zero=>intro a;rfl
 |succ c i=>
  intro a;unfold DI;congr 1;congr 1;funext b;rw[aq rfl,<-i];by_cases d:go a b=true
  ·rw[aq d]
  ·rw[ao d];symm;rw[List.eq_nil_iff_forall_not_mem];intro j h;obtain⟨f,e,rfl⟩:=Od _ _ _ h;exact d (g a e b (by simpa using f))
def aaA{c:Nat}{a b:List Int->Bool}{go:List Int->Int->Bool}(e:∀d,a d=b d):DI c a go=DI c b go:=by
 rw[show a=b from funext e]
def pU(a:List Int):Int:=a.getD (a.length-1) 0
def GX.KQ{o:GX}{h:Int->Int->Bool}{a d:List Int}{b:Int}(n:a≠ [])(e:o.KR h (a++b::d)=true):h b (pU a)=true/\b∉a:=by
 unfold GX.KR at e;simp only[ax,cz]at e;have p:0<a.length:=List.length_pos_iff.2 n;have g:(a++b::d).length=a.length+1+d.length:=dN;have i:(a++b::d).getD a.length 0=b:=by simp[List.getD]
 refine⟨?_,λm=>?_⟩
 ·have c:=(e.2 (a.length-1) (by rw[dw,g];omega)).1.2;rw[show a.length-1+1=a.length by omega,Nat.mod_eq_of_lt (by rw[g];omega),i]at c;have f:(a++b::d).getD (a.length-1) 0=pU a:=by
   unfold pU;simp[List.getD,cv (show a.length-1<a.length by omega)]
  rwa[f]at c
 ·have⟨k,j,l⟩:=dy m;have c:=(e.2 a.length (by rw[dw,g];omega)).2 k (by rw[dw];omega);rw[i]at c;have f:(a++b::d).getD k 0=b:=by
   simp only[List.getD,cv j,az j,l,cU]
  rw[f]at c;simp at c
def GX.Qw(b:GX)(d:Nat):List (List Int):=DI b.ev.length (λa=>b.vR (gC a)) (λa c=> !decide (c∈a)&&b.Cy c (pU a)) 3 [(d:Int)]
def GX.MU(b:GX)(c:Nat):List (List Int):=DI b.ev.length (λa=>decide (2<=a.length)&&b.vG (gC a)) (λa d=>b.sP d (pU a)) 3 [(c:Int)]
def GX.Y3(a:GX)(b:List Int):a.vR (gC b)=a.KR a.Cy b:=by
 unfold GX.vR GX.dead gC;simp
def TN{d:Nat}{e:List Int->Bool}{go go':List Int->Int->Bool}(f:∀(a:List Int) (b:Int),a≠ []->go a b=go' a b):∀(c:Nat) (a:List Int),a≠ []->DI d e go c a=DI d e go' c a:=by
 intro c;induction c with
 |zero=>intro a _;rfl
 |succ c h=>
  intro a g;unfold DI;congr 1;congr 1;funext b;rw[f a b g,h (a++[(b:Int)]) Y]
def GX.TQ(b:GX)(g:Nat):b.MU g=b.Qw g:=by
 unfold GX.MU GX.Qw;have j:∀a,(decide (2<=a.length)&&b.vG (gC a))=b.vR (gC a):=by
  intro a;rw[GX.Vc,GX.Y3];by_cases d:2<=a.length
  ·simp[d]
  ·unfold GX.KR;simp[d]
 rw[aaA j];have h:=Oe (n:=b.ev.length) (ok:=λa=>b.vR (gC a)) (go:=λa f=>decide (a=[])||b.sP f (pU a)) (λa m f d=>by
  by_cases c:a=[]
  ·simp[c]
  ·rw[GX.Y3,<-GX.TR]at d;simp[(GX.KQ c d).1]) 3 [(g:Int)]
 have i:=Oe (n:=b.ev.length) (ok:=λa=>b.vR (gC a)) (go:=λa e=>decide (a=[])||(!decide (e∈a)&&b.Cy e (pU a))) (λa m f d=>by
  by_cases c:a=[]
  ·simp[c]
  ·rw[GX.Y3]at d;have⟨k,l⟩:=GX.KQ c d;simp[k,l]) 3 [(g:Int)]
 rw[TN (go':=λa f=>decide (a=[])||b.sP f (pU a)) (λa f c=>by simp[c]) 3 _ Y,
  TN (go:=λa e=> !decide (e∈a)&&b.Cy e (pU a)) (go':=λa e=>decide (a=[])||(!decide (e∈a)&&b.Cy e (pU a))) (λa f c=>by simp[c]) 3 _ Y,h,i]
def GX.n(a:GX):Nat:=a.ev.length
def ks(b:iX->Bool)(a:iX):List iX:=if b a=true then [a]else []
def gR(a b:Nat):iX:=⟨1,a,b,0,0,[]⟩
def gL(a b:Nat):iX:=⟨3,a,b,0,0,[]⟩
def gA(a b c d:Nat):iX:=⟨4,a,b,c,d,[]⟩
def GX.E0(a:GX):List iX:=
 ((List.range a.n).flatMap λ(b:Nat)=>(List.range a.n).flatMap λ(c:Nat)=>ks a.vR (gR b c))++
 ((List.range a.n).flatMap λ(b:Nat)=>(a.Qw b).map gC)++
 ((List.range a.n).flatMap λ(b:Nat)=>(List.range a.n).flatMap λ(c:Nat)=>ks a.vR (gL b c))++
 ((
  List.range a.n).flatMap λ(b:Nat)=>(kf (b+1) a.n).flatMap λ(c:Nat)=>
  if(a.e b).eg=(a.e c).eg/\uG (a.e b)=true/\uG (a.e c)=true then(List.range a.n).flatMap λ(d:Nat)=>(kf d a.n).flatMap λ(f:Nat)=>ks a.vR (gA b c d f)else [])
def GX.pq(a:GX):List iX:=
 ((List.range a.n).flatMap λ(b:Nat)=>(kf (b+1) a.n).flatMap λ(c:Nat)=>ks a.vG (gR b c))++
 ((List.range a.n).flatMap λ(b:Nat)=>(a.MU b).map gC)++
 ((List.range a.n).flatMap λ(b:Nat)=>(List.range b).flatMap λ(c:Nat)=>ks a.vG (gL b c))++
 ((
  List.range a.n).flatMap λ(b:Nat)=>(kf (b+1) a.n).flatMap λ(c:Nat)=>
  if a.K6 b c=true then(List.range a.n).flatMap λ(d:Nat)=>(kf d a.n).flatMap λ(e:Nat)=>ks a.vG (gA b c d e)else [])
def CI{a b:Nat}(c:a<=b):List.range b=List.range a++List.range' a (b-a):=by
 rw[List.range_eq_range',List.range_eq_range',show b=a+(b-a)by omega,<-List.range'_append_1];simp
def tz{b e:Type}{l:List b}{a:b->List e}(c:∀d∈l,a d=[]):l.flatMap a=[]:=by
 rw[List.flatMap_eq_nil_iff];exact c
def oy{f j:Type}{a:List f}{c d:f->List j}(e:∀b∈a,c b=d b):a.flatMap c=a.flatMap d:=by
 induction a with
 |nil=>rfl
 |cons b a h=>simp only[bm];rw[e b Y,h λi g=>e i (by simp[g])]
def GX.Be(a:GX):a.pq=a.E0:=by
 have p:a.vG=a.vR:=funext a.Vc;unfold GX.pq GX.E0;rw[p];congr 1
 ·congr 1
  ·congr 1
   ·refine oy λb h=>?_;rw[dw]at h;rw[CI (show b+1<=a.n by omega),dF];rw[tz (l:=List.range (b+1)),cG];rfl;intro d i;rw[dw]at i;unfold ks;rw[ao];unfold GX.vR gR GX.Zt;have:¬((b:Int)<d):=D;simp[this]
   ·exact oy λb h=>by rw[GX.TQ]
  ·refine oy λb h=>?_;rw[dw]at h;rw[CI (show b<=a.n by omega),dF,tz (l:=List.range' b (a.n-b)),bG];intro d i;rw[List.mem_range'_1]at i;unfold ks;rw[ao];unfold GX.vR gL GX.Yx;have:¬((d:Int)<b):=D;simp[this]
 ·refine oy λb h=>oy λd i=>?_;have none:∀{m:Prop},(∀f g,a.vR (gA b d f g)=true->m)->¬m->((List.range a.n).flatMap λ(f:Nat)=>(kf f a.n).flatMap λ(g:Nat)=>ks a.vR (gA b d f g))=[]:=by
   intro m c o;refine tz λf _=>tz λg _=>?_;unfold ks;exact ao λq=>o (c f g q)
  by_cases j:a.K6 b d=true
  ·rw[aq j];by_cases k:(a.e b).eg=(a.e d).eg/\uG (a.e b)=true/\uG (a.e d)=true
   ·rw[aq k]
   ·rw[ao k];refine none (λf g c=>?_) k;unfold GX.vR gA at c;simp only[show¬((4:Int)=2)by omega,show¬((4:Int)=1)by omega,show¬((4:Int)=3)by omega,bh,bj]at c;split at c
    ·unfold GX.Xe nD at c;simp only[ax,aK]at c;obtain⟨_,⟨⟨⟨⟨⟨⟨⟨_,_⟩,r⟩,_⟩,_⟩,s⟩,t⟩,_⟩,_⟩:=c;exact⟨r,s.1.1.1,t.1.1.2⟩
    ·simp at c
  ·rw[ao j];split
   ·symm;refine none (λf g c=>?_) j;rw[<-GX.Vc]at c;unfold GX.vG gA at c;simp only[show¬((4:Int)=2)by omega,show¬((4:Int)=1)by omega,show¬((4:Int)=3)by omega,bh,bj]at c;simp only[ax]at c;exact c.1.2
   ·rfl
section
def ls(a:fk):Int:=if a.kind=18 then a.value else-1
def uM(b:fc)(a:fk):Bool:=if a.kind=1\/a.kind=2 then decide (a.jK=-1)else(match qJ b.ji a.jK with|some c=>decide (c.eg=a.eg)|none=>false)
def sizeOf(b:fc)(a:Int):Int:=((qJ b.cells a).getD default).size
def Of(b:fc)(a:fk):Bool:=decide (a.mE=[])||decide (a.kind=5)||(uG a&& !decide (sizeOf b a.obj=0))
def N7(a:fk):Bool:=decide (a.tQ=[])||decide (a.kind=4)||decide (a.kind=22)
def pk(c:fc)(b:fJ)(a:fk):Bool:=
 mD c b&&ju a.eg c.dW.length&&(decide (1<=a.kind)&&decide (a.kind<=23))&&je c b.fN a.eg a.kind a.obj&&uM c a&&Of c a&&N7 a&&
  xz (b.count.getD a.eg.toNat 0) none a.mE&&xz (b.count.getD a.eg.toNat 0) none a.tQ&&oh b a
def ko(c:fc)(b:fJ)(a:fk):fJ:=
 ⟨(fO c b.fN a.eg a.kind a.obj (ls a)).1,if a.kind=4 then b.cells.set a.obj.toNat a.value else b.cells,if a.kind=22 then b.fa.set a.obj.toNat a.value else b.fa,b.count.modify a.eg.toNat (· +1)⟩
def vi:fJ:=⟨⟨[],0,[],[]⟩,[],[],[]⟩
def ke(c:fc)(b:fJ)(a:fk):fJ×Bool:=if pk c b a=true then(ko c b a,true)else(vi,false)
section
variable {S E:Type}
def qH(ok:S->E->Bool)(nx:S->E->S):S->List E->Bool
 |_,[]=>true
 |s,a::b=>ok s a&&qH ok nx (nx s a) b
def wE(nx:S->E->S):S->List E->List S
 |_,[]=>[]
 |s,a::b=>s::wE nx (nx s a) b
def wC(go:S->E->S):S->List E->S
 |s,[]=>s
 |s,a::b=>wC go (go s a) b
def Xl{a:Type}(d:a->E->Bool)(b:a->E->a):a->List E->aa (List a)
 |_,[]=>some []
 |s,c::e=>if d s c=true then(Xl d b (b s c) e).map (s:: ·)else none
variable {ok:S->E->Bool}{nx go:S->E->S}
def LE:∀(a:List E) (b:S),(wE nx b a).length=a.length:=by
 intro a;induction a with
 |nil=>intro b;rfl
 |cons d a c=>intro b;simp[wE,c]
def Pn(f:∀a b,ok a b=true->go a b=nx a b):∀(c d:List E) (a:S),qH ok nx a (c++d)=(qH ok nx a c&&qH ok nx (wC go a c) d):=by
 intro c;induction c with
 |nil=>intro d a;simp[qH,wC]
 |cons b c g=>
  intro d a;simp only[cM,qH,wC];cases e:ok a b with
  |true=>rw[g,f a b e,bg,bg]
  |false=>simp
def BE:∀(a b:List E) (c:S),wC go c (a++b)=wC go (wC go c a) b:=by
 intro a;induction a with
 |nil=>intro b c;rfl
 |cons e a d=>intro b c;simp only[cM,wC,d]
def LF(g:∀a d,ok a d=true->go a d=nx a d):∀(c:List E) (a:S) (b:Nat),qH ok nx a c=true->b<c.length->(wE nx a c)[b]? =some (wC go a (c.take b)):=by
 intro c;induction c with
 |nil=>intro a b _ f;simp at f
 |cons d c h=>
  intro a b e f;simp only[qH,ax]at e;cases b with
  |zero=>simp[wE,wC]
  |succ b=>
   simp only[wE,dq,List.take_succ_cons,wC];rw[g a d e.1];exact h _ b e.2 (by simpa using f)
def Rl(g:∀b a,ok b a=true->go b a=nx b a):∀(d:List E) (b:S) (c:Nat) (a:E),qH ok nx b d=true->d[c]? =some a->ok (wC go b (d.take c)) a=true:=by
 intro d;induction d with
 |nil=>intro b c a _ e;simp at e
 |cons i d h=>
  intro b c a f e;simp only[qH,ax]at f;cases c with
  |zero=>simp at e;subst e;simpa[wC]using f.1
  |succ c=>
   simp only[List.take_succ_cons,wC];rw[g b i f.1];exact h _ c a f.2 (by simpa using e)
def QH{d:Type}{g:d->E->Bool}{f:d->E->d}{pr:S->d}(h:∀a b,ok a b=true->g (pr a) b=true)(i:∀a b,pr (nx a b)=f (pr a) b):∀(c:List E) (a:S),qH ok nx a c=true->Xl g f (pr a) c=some ((wE nx a c).map pr):=by
 intro c;induction c with
 |nil=>intro a _;rfl
 |cons b c j=>
  intro a e;simp only[qH,ax]at e;simp only[Xl,wE,aL];rw[aq (h a b e.1),<-i,j _ e.2];rfl
def UH{I:S->Prop}(e:∀a c,I a->I (go a c)):∀(b:List E) (a:S),I a->I (wC go a b):=by
 intro b;induction b with
 |nil=>intro a d;exact d
 |cons c b f=>intro a d;exact f _ (e a c d)
end
def runs(a:fc):fJ->List fk->Bool:=qH (pk a) (ko a)
def Ny(a:fc):fJ->List fk->List fJ:=wE (ko a)
def o8(w:fc):fJ->List fk->fJ:=wC λb a=>(ke w b a).1
def oF{c:fc}(b:fJ)(a:fk)(d:pk c b a=true):(ke c b a).1=ko c b a:=by unfold ke;rw[aq d]
def Ph(c:fc)(a:List fk)(b:fJ):(Ny c b a).length=a.length:=LE a b
def Ee(b:fc)(c d:List fk)(a:fJ):runs b a (c++d)=(runs b a c&&runs b (o8 b a c) d):=Pn (go:=λa e=>(ke b a e).1) oF c d a
def tJ{e:fc}{a:List fk}{d:fJ}(b:runs e d a=true)(c:Nat):runs e d (a.take c)=true:=by
 rw[<-cS c a,Ee,ax]at b;exact b.1
def Rk{c:fc}{a:List fk}{f:fJ}(d:runs c f a=true)(b e:Nat):runs c (o8 c f (a.take b)) ((a.drop b).take e)=true:=by
 rw[<-cS b a,Ee,ax]at d;exact tJ d.2 e
def Pi{d:fc}(b:List fk)(a:fJ)(c:Nat)(f:runs d a b=true)(g:c<b.length):(Ny d a b)[c]? =some (o8 d a (b.take c)):=LF (go:=λa e=>(ke d a e).1) oF b a c f g
def Vs{d:fc}(c:List fk)(b:fJ)(e:Nat)(a:fk)(f:runs d b c=true)(g:c[e]? =some a):pk d (o8 d b (c.take e)) a=true:=Rl (go:=λb a=>(ke d b a).1) oF c b e a f g
def m6{c:fc}{d:fJ}{a:fk}(b:pk c d a=true):mD c d=true/\ju a.eg c.dW.length=true/\je c d.fN a.eg a.kind a.obj=true:=by
 unfold pk at b;simp only[ax]at b;exact⟨b.1.1.1.1.1.1.1.1.1,b.1.1.1.1.1.1.1.1.2,b.1.1.1.1.1.1.2⟩
def ana(c:fc):gh->List fk->aa (List gh):=Xl (λb a=>je c b a.eg a.kind a.obj) λb a=>(fO c b a.eg a.kind a.obj (ls a)).1
def UB{c:fc}(b:List fk)(a:fJ)(d:runs c a b=true):ana c a.fN b=some ((Ny c a b).map fJ.fN):=
 QH (pr:=fJ.fN) (λa f e=>(m6 e).2.2) (λ_ _=>rfl) b a d
structure xx(w:ej):Prop where
 len:w.dY.length<=16
 qB:w.fq.dW.length<=4
 run:runs w.fq w.jG w.dY=true
 BL:w.jG.fN.BL
def ej.gx(c:ej):GX:=⟨c.fq,c.dY,(Ny c.fq c.jG c.dY).map fJ.fN⟩
def xx.ok{a:ej}(b:xx a){i:Nat}{e:fk}(c:a.dY[i]? =some e):pk a.fq (o8 a.fq a.jG (a.dY.take i)) e=true:=Vs _ _ _ _ b.run c
def xx.st{a:ej}(c:xx a){b:Nat}(d:b<a.dY.length):a.gx.st[b]? =some (o8 a.fq a.jG (a.dY.take b)).fN:=by
 unfold ej.gx;rw[aR,Pi _ _ _ c.run d];rfl
def xx.e{a:ej}(d:xx a){i:Int}(g:ju i a.dY.length=true):∃e,a.dY[i.toNat]? =some e/\a.gx.e i=e/\ju e.eg a.fq.dW.length=true/\jN a.fq e.kind e.obj=true:=by
 have⟨f,b⟩:=fI.1 g;refine⟨a.dY[i.toNat],by simp[b],?_,?_⟩
 ·unfold GX.e lL qJ ej.gx;rw[aq f];simp[b]
 ·have:=d.ok (i:=i.toNat) (e:=a.dY[i.toNat]) (by simp[b]);have⟨_,h,c⟩:=m6 this;refine⟨h,?_⟩;unfold je at c;simp only[ax]at c;exact c.1.2
def xx.s{a:ej}(c:xx a){i:Int}(g:ju i a.dY.length=true):a.gx.s i=(o8 a.fq a.jG (a.dY.take i.toNat)).fN/\mn a.fq (a.gx.s i)=true:=by
 have⟨f,d⟩:=fI.1 g;have h:=c.st d;have b:a.gx.s i=(o8 a.fq a.jG (a.dY.take i.toNat)).fN:=by
  unfold GX.s qJ;rw[aq f,h];rfl
 refine⟨b,?_⟩;rw[b];have:=(m6 (c.ok (i:=i.toNat) (e:=a.dY[i.toNat]) (by simp[d]))).1;unfold mD at this;simp only[ax]at this;exact this.1.1.1
def LB{b:fc}{a:fJ}{c:fk}(d:a.fN.BL):(ke b a c).1.fN.BL:=by
 unfold ke;split
 ·exact xj d b _ _ _ _
 ·intro e hl;simp[vi]at hl
def Xn{d:fc}(c:List fk)(a:fJ)(b:a.fN.BL):(o8 d a c).fN.BL:=UH (I:=λa=>a.fN.BL) (λ_ _ b=>LB b) c a b
def mt(a:fc):gh:=⟨a.fj.map λ_=>⟨-1,[]⟩,-1,a.fa.map λ_=>false,(List.range a.dW.length).map λb=>⟨if b=0 then 1 else 0,0,false⟩⟩
def jW(a:fc):fJ:=⟨mt a,a.cells.map iK.jG,a.fa.map λ_=>0,a.dW.map λ_=>0⟩
def uK(a:fc):(jW a).fN.BL:=by
 intro b hl;unfold jW mt at hl;simp only[cW]at hl;obtain⟨_,_,rfl⟩:=hl;exact List.Pairwise.nil
def xI(b:fc)(c:List fk)(d a:Nat):ej:=⟨b,a,o8 b (jW b) (c.take a),(c.drop a).take d⟩
def QY{a:fc}{d:List fk}(e:runs a (jW a) d=true)(ht:a.dW.length<=4){b:Nat}(f:b<=16)(c:Nat):xx (xI a d b c):=
 ⟨by simp[xI];omega,ht,Rk e c b,Xn _ _ (uK a)⟩
end
def qI(c:Int)(b:List Int):List fk->Nat->Int
 | [],_=>-1
 |e::d,a=>if e.eg=c/\¬(a:Int)∈b then a else qI c b d (a+1)
def oZ(c:Int):List fk->Nat->Int->Int
 | [],_,_=>-1
 |e::d,a,b=>if e.eg=c then(if b=0 then(a:Int)else oZ c d (a+1) (IntKind.i64.wrap (b-1)))else oZ c d (a+1) b
def RdW(c:ej):Prop:=∀(f:Nat) (a:fk) (b first:Int),c.dY[f]? =some a->b∈a.mE\/b∈a.tQ->qJ c.jG.count a.eg=some first->first<=b->∃(e:Nat) (d:fk),oZ a.eg c.dY 0 (b-first)=e/\c.dY[e]? =some d/\(d.kind=3\/d.kind=23)
def iV(c:ej)(a:fD)(b:Int):Int:=qI b a.order c.dY 0
def ww(a:List Bool)(b:Int):Bool:=(qJ a b).getD false
def yZ(d:ej)(b:List Bool)(c first a:Int):Bool:=decide (a<first)||ww b (oZ c d.dY 0 (IntKind.i64.wrap (a-first)))
def mN(c:ej)(d:fD)(b:Int)(a:List Int):Bool:=match qJ c.jG.count b with
 |some first=>a.all (yZ c d.fixed b first)
 |none=>decide (a=[])
def iP(a:ej)(b:fD)(c:Int):Bool:=
 if iV a b c<0 then false
 else je a.fq b.fN c (lL a.dY (iV a b c)).kind (lL a.dY (iV a b c)).obj&&mN a b c (lL a.dY (iV a b c)).mE
def cont(a:Bool)(b:Int):fV:=if a=true then⟨b,true⟩else⟨0,false⟩
def fixC(a:List fV)(b c:Int):Bool:=decide (qJ a b=some ⟨c,true⟩)
def YZ:fD:=⟨⟨[],0,[],[]⟩,[],[],[],[],[]⟩
def wu(e:ej)(b:fD)(c:Int)(a:fk)(d f:Int):fD:=
 ⟨
  (fO e.fq b.fN d a.kind a.obj f).1,
  if a.kind=4 then b.cells.set a.obj.toNat (cont (mN e b d a.tQ) a.value)else b.cells,
  if a.kind=22 then b.fa.set a.obj.toNat (cont (mN e b d a.tQ) a.value)else b.fa,
  b.order++[c],
  if a.kind=3 then b.fixed.set c.toNat (fixC b.cells a.obj a.value)else if a.kind=23 then b.fixed.set c.toNat (fixC b.fa a.obj a.value)else b.fixed,
  if a.kind=18 then(if 0<=(fO e.fq b.fN d a.kind a.obj f).2 then b.pZ.set c.toNat 1 else b.pZ)
   else if a.kind=19 then b.pZ.set c.toNat (fO e.fq b.fN d a.kind a.obj f).2 else b.pZ⟩
def mf(b:ej)(c:fD)(a:gJ):fD×Bool:=
 if iP b c a.eg=true then(wu b c (iV b c a.eg) (lL b.dY (iV b c a.eg)) a.eg a.rL,true)else(YZ,false)
def ka(a:ej):fD:=⟨a.jG.fN,a.jG.cells.map λb=>⟨b,true⟩,a.jG.fa.map λb=>⟨b,true⟩,[],List.replicate a.dY.length false,List.replicate a.dY.length 0⟩
def py(a:ej)(b:fD)(c:Int):List Int:=
 if 0<=iV a b c/\(lL a.dY (iV a b c)).kind=18/\iW (lL a.dY (iV a b c)).obj b.fN.dW 0≠ []then iW (lL a.dY (iV a b c)).obj b.fN.dW 0 else [-1]
def mQ(c:ej)(b:fD)(e:Nat):List gJ:=(List.range e).flatMap λ(a:Nat)=>if iP c b a=true then(py c b a).map λd=>⟨a,d⟩else []
def mB(a:ej):List Int->List gJ->fD->List gJ×fD
 | [],c,b=>(c,b)
 |n::d,c,b=>if mQ a b a.fq.dW.length=[]then(c,b)
  else mB a d (c++[(mQ a b a.fq.dW.length).getD (n% (mQ a b a.fq.dW.length).length).toNat default]) (mf a b ((mQ a b a.fq.dW.length).getD (n% (mQ a b a.fq.dW.length).length).toNat default)).1
def uN(b:ej):List gJ->fD->aa fD
 | [],a=>some a
 |c::d,a=>if iP b a c.eg=true then uN b d (mf b a c).1 else none
def Dy(a:ej)(c:fD)(b:Int):Bool:=decide (iV a c (lL a.dY b).eg=b)&&iP a c (lL a.dY b).eg
def place(a:fD)(b:Int):Int:=uj a.order b 0
def I7(a:fD)(b:Int):Bool:=decide (qJ a.pZ b=some 0)
structure uI(N:Nat)(w:ej)(c:fD):Prop where
 fx:c.fixed.length=w.dY.length
 wk:c.pZ.length=w.dY.length
 ce:w.dY≠ []->c.cells.length=w.fq.cells.length
 fu:w.dY≠ []->c.fa.length=w.fq.fa.length
 ft:w.dY≠ []->mn w.fq c.fN=true
 rd:∀l∈c.fN.fj,l.fF.length<=N
 BL:c.fN.BL
 od:c.order.length<=N
def allI{b:Type}(a:Nat->b->Bool):Nat->List b->Bool
 |_,[]=>true
 |k,d::c=>a k d&&allI a (k+1) c
def wV(a:Nat):Bool:=decide (97<=a/\a<=122)||decide (65<=a/\a<=90)
def FE(a:Nat):Bool:=decide (48<=a/\a<=57)
def ym(a:Nat):Bool:=wV a||FE a||decide (a=95)
def oP:List (List Nat):=[[118,97,114],[118,111,108,97,116,105,108,101],[109,117,116,101,120],[114,119,108,111,99,107],[99,111,110,100],[102,117,116,117,114,101],[116,104,114,101,97,100],[105,102],[101,108,115,101],[119,104,105,108,101],[108,111,99,107],[114,101,97,100],[119,114,105,116,101],[116,114,97,110,115,97,99,116,105,111,110],[97,116,111,109,105,99],[119,97,105,116],[110,111,116,105,102,121],[110,111,116,105,102,121,97,108,108],[115,112,97,119,110],[106,111,105,110],[115,101,116],[103,101,116]]
def wi(a:List Nat):Bool:=decide (a∈oP)
def N4(a:List Nat):Bool:=match a with|c::_=>wV c| []=>false
def we(a:List Nat):Bool:=decide (1<=a.length)&&decide (a.length<=12)&& !wi a&&N4 a&&a.all ym
def yf(a:List (List Nat)):Bool:=a.all we&&decide a.Nodup
def NA(a:iK)(c:List iK):Bool:=allI (λb d=>decide (d={a with index:=b,vL:=false})) 0 (c.take a.size.toNat)
def jD:List iK->aa (List (List Nat))
 | []=>some []
 |c::a=>if c.size=0 then(if c.index=0 then(jD a).map (c.name:: ·)else none)
  else if d:c.size<1\/4<c.size\/(a.length+1:Int)<c.size then none
  else if NA c (c::a)=true then(jD ((c::a).drop c.size.toNat)).map (c.name:: ·)else none
 termination_by b=>b.length
 decreasing_by
  ·simp
  ·simp;omega
def mT(b:Nat):Int->Int->List jc->Bool
 |_,_,[]=>true
 |t,d,a::c=>if a.eg<t\/(b:Int)<=a.eg then false else
  if t<a.eg then(if a.stmt=0 then mT b a.eg 1 c else false)else(if a.stmt=d then mT b t (d+1) c else false)
def sd(c:fc)(a:Int)(rw:Bool):Bool:=match qJ c.fj a with|some b=>b.rW==rw|none=>false
def uL(a:fc):Bool:=decide (a.cells.length<=12)&&decide (a.fj.length<=4)&&decide (a.iB.length<=2)&&decide (a.fa.length<=2)&&decide (a.ji.length<=60)&&decide (1<=a.dW.length)&&decide (a.dW.length<=4)
def tv(a:fc)(b:List (List Nat)):List (List Nat):=b++a.fj.map (·.name)++a.iB.map (·.name)++a.fa++a.dW
def DU(a:fc):Bool:=match jD a.cells with|none=>false|some b=>yf (tv a b)
def kv(a:fc):Bool:=uL a&&DU a&&(a.iB.all λb=>sd a b.kY false)&&mT a.dW.length 0 0 a.ji
def yA(c:fc)(b:Int):Bool:=match qJ c.cells b with|some a=>decide (a.size=0)|none=>false
def Cz(d:fc)(b c:Int):Bool:=match qJ d.cells b with|some a=>decide (a.index=0)&& !decide (a.size=0)&&decide (a.size=c)|none=>false
def jA(d:io):List Int:=
 if d.op=1\/d.op=6\/d.op=10\/d.op=27 then [d.a]else if d.op=2\/d.op=3 then [d.a,d.b]else if d.op=4 then [d.a,d.b,d.c]
 else if d.op=7 then [d.a,d.c]else if d.op=8\/d.op=26 then [d.b]else if d.op=9 then [d.b,d.c]else []
def nI(d:fc)(c:io):Bool:=
 if c.op=6 then yA d c.b else if c.op=8 then yA d c.a else if c.op=7 then Cz d c.b c.n else if c.op=9 then Cz d c.a c.n
 else if c.op=11\/c.op=12 then sd d c.a false else if c.op=13\/c.op=14\/c.op=15\/c.op=16 then sd d c.a true
 else if c.op=21\/c.op=22\/c.op=23 then ju c.a d.iB.length else if c.op=24\/c.op=25 then ju c.a d.dW.length
 else if c.op=26 then ju c.a d.fa.length else if c.op=27 then ju c.b d.fa.length
 else if c.op=3 then decide (c.n=4\/c.n=5)else if c.op=4 then decide (6<=c.n/\c.n<=18)else true
def yz(a:Int):Bool:=decide (1<=a/\a<=5)
def MF(b:io)(c:Int):Int:=if b.op=5 then b.a else c+1
def E3(c:List io):Nat->Int->Bool
 |0,_=>false
 |m+1,b=>match qJ c b with
  |none=>false
  |some a=>if yz a.op=true then E3 c m (MF a b)else true
def BO(a:dZ):Bool:=decide (a.jf=3)||decide (a.jf=4)
def FK{b a:Type}(e:b->a->Bool)(f:List a->a->Bool)(d:b->a->b):List a->b->List a->Bool
 |_,_,[]=>true
 |pre,g,c::h=>(e g c&&f pre c)&&FK e f d (pre++[c]) (d g c) h
def Qy{c a:Type}{g:c->a->Bool}{j:List a->a->Bool}{f:c->a->c}:∀(b h:List a) (e:c),FK g j f h e b=true->qH g f e b=true:=by
 intro b;induction b with
 |nil=>intro _ _ _;rfl
 |cons k b i=>
  intro h e d;simp only[FK,ax]at d;simp only[qH,ax];exact⟨d.1.1,i _ _ d.2⟩
def Rx(b:List fk)(a:fk):Bool:=wF b a.eg a.mE&&wF b a.eg a.tQ
def pF(a:fc)(b:List fk):Bool:=decide (b.length<=400)&&kv a&&FK (pk a) Rx (ko a) [] (jW a) b
def xd{b:fc}{c:List fk}(a:pF b c=true):runs b (jW b) c=true/\b.dW.length<=4/\c.length<=400:=by
 unfold pF at a;simp only[ax,aK]at a;refine⟨Qy _ _ _ a.2,?_,a.1.1⟩;have d:=a.1.2;unfold kv uL at d;simp only[ax,aK]at d;omega
structure sR(N:Nat)(s:fJ):Prop where
 l:s.fN.fj.length<=1000/\s.fN.done.length<=1000/\s.fN.dW.length<=1000/\s.cells.length<=1000/\s.fa.length<=1000/\s.count.length<=1000
 r:∀l∈s.fN.fj,l.fF.length<=N
 a:s.fN.BL
 c:∀c∈s.count,-N<=c/\c<=N
def sR.up{e M:Nat}{f:fJ}(b:sR e f)(i:e<=M):sR M f:=⟨b.l,λh d=>by have:=b.r h d;omega,b.a,λg d=>by have:=b.c g d;omega⟩
def aad{b:Nat}{c:gh}{i:Int}{d:em->em}(e:∀a∈c.fj,a.fF.length<=b)(g:∀a∈c.fj,(d a).fF.length<=b+1):∀a∈(c.qF i d).fj,a.fF.length<=b+1:=by
 intro a hl;rcases mem_modify hl with f|⟨j,h,rfl⟩
 ·have:=e a f;omega
 ·exact g j h
def HF{d:Nat}{j:gh}(k:∀a∈j.fj,a.fF.length<=d)(p:fc)(h m n q:Int):∀a∈(fO p j h m n q).1.fj,a.fF.length<=d+1:=by
 have c:∀a∈j.fj,a.fF.length<=d+1:=λa o=>by have:=k a o;omega
 have l:∀(f:Int) (b:em->em),(∀a,(b a).fF=a.fF\/(b a).fF=ng a.fF h\/(b a).fF=a.fF.filter λg=> !decide (g=h))->∀a∈(j.qF f b).fj,a.fF.length<=d+1:=λf b i=>aad k λa hl=>by
  have r:=k a hl;rcases i a with e|e|e<;>rw[e]
  ·omega
  ·have:=Ku a.fF h;omega
  ·have:=List.length_filter_le (λg=> !decide (g=h)) a.fF;omega
 exact xl (P:=λg=>∀a∈g.1.fj,a.fF.length<=d+1) c c (λ_ _ _=>c) (λf b i=>⟨l f b i,λ_ _=>l f b i⟩) (λ_=>c) (λ_ _=>c) (λ_=>c)
def OX(a:Nat):sR a vi:=⟨by simp[vi],by simp[vi],by intro b hl;simp[vi]at hl,by simp[vi]⟩
def sR.step{e:Nat}{f:fJ}(d:sR e f)(h:fc)(b:fk):sR (e+1) (ke h f b).1:=by
 unfold ke;split
 ·have hl:=xi h f.fN b.eg b.kind b.obj (ls b);have⟨l1,l2,l3,l4,l5,l6⟩:=d.l;refine⟨⟨by show(fO ..).1.fj.length<=_;omega,by show(fO ..).1.done.length<=_;omega,by show(fO ..).1.dW.length<=_;omega,?_,?_,?_⟩,HF d.r _ _ _ _ _,xj d.a _ _ _ _ _,λg i=>?_⟩
  ·unfold ko;simp only;split<;>simp[l4]
  ·unfold ko;simp only;split<;>simp[l5]
  ·unfold ko;simp[l6]
  ·rcases mem_modify (show g∈f.count.modify b.eg.toNat (· +1)from i)with k|⟨m,j,rfl⟩
   ·have:=d.c g k;omega
   ·have:=d.c m j;omega
 ·exact(OX e).up (Nat.le_succ e)
def sR.o8{w:fc}:∀(a:List fk) {b:Nat} {c:fJ},sR b c->sR (b+a.length) (o8 w c a):=by
 intro a;induction a with
 |nil=>intro b c d;exact d
 |cons e a f=>
  intro b c d;have:=f (d.step w e);rw[show b+1+a.length=b+(e::a).length by simp;omega]at this;exact this
def wD(a:fc)(d:a.fj.length<=1000/\a.fa.length<=1000/\a.dW.length<=1000/\a.cells.length<=1000):sR 0 (jW a):=by
 refine⟨by simp[jW,mt];omega,λe hl=>?_,uK a,λc b=>?_⟩
 ·simp[jW,mt]at hl;obtain⟨_,rfl⟩:=hl;simp
 ·simp[jW]at b;omega
end
end Go.Proofs.YtmoiekepclmgbaaGreatDoor
namespace Go.TI
noncomputable section
section
attribute [-simp] fK fh
section
def gT(a:Bool)(b:T):T:=match a with|true=>b|false=> .undef
def mgT(a:Bool)(b c:T):T:=match a with|true=>b|false=>c
@[simp]theorem ad7 (b:Bool) (a:T):mgT b a a=a:=by cases b<;>rfl
@[simp]theorem aiG (a:Bool) (b:T):mgT a b .undef=gT a b:=by cases a<;>rfl
@[simp]theorem aiF (a:Bool) (b:T):mgT a .undef b=gT (!a) b:=by cases a<;>rfl
@[simp]theorem aiH (a b c:Bool):mgT a (.bool b) (.bool c)= .bool (bif a then b else c):=by cases a<;>rfl
def Z6(a:Bool)(b c:iz):iz:=match a with|true=>b|false=>c
@[simp]theorem ad5 (b:Bool) (a:iz):Z6 b a a=a:=by cases b<;>rfl
@[simp]theorem ad6 (a:Bool) (b:Nat) (e g:T) (c d:iz):Z6 a (.cons b e c) (.cons b g d)= .cons b (mgT a e g) (Z6 a c d):=by cases a<;>rfl
def xy:iz->Nat->T->iz
 | .nil,_,_=> .nil
 | .cons a e b,c,d=>if a=c then .cons a d b else .cons a e (xy b c d)
@[simp]def Pk (a c:Nat) (e d:T) (b:iz):xy (.cons a e b) c d=if a=c then .cons a d b else .cons a e (xy b c d):=id rfl
def vP:∀{c:iz} {b:Nat} {d:T},d8 c b=some d->xy c b d=c
 | .nil,_,_,_=>rfl
 | .cons e i g,b,d,h=>by
  rw[nC]at h;rw[Pk];by_cases a:e=b
  ·rw[aq a]at h;simp only[ar]at h;rw[aq a,h]
  ·rw[ao a]at h;rw[ao a,vP h]
def Ga(a:Nat):List Oper->List Oper
 | []=>[]
 |o::c=>match o.guard with|some (b,_)=>if a<=b then o::Ga a c else []|none=>[]
def Oc(b:Nat):List Oper->List Oper
 | []=>[]
 |o::a=>match o.guard with|some (c,_)=>if b<=c then Oc b a else o::a|none=>o::a
def Q9(b:Nat):∀a,Ga b a++Oc b a=a
 | []=>rfl
 |o::a=>by
  unfold Ga Oc;cases o.guard with
  |none=>rfl
  |some c=>
   simp only;split
   ·rw[cM,Q9 b a]
   ·rfl
section
variable {cx:Ctx}{cf:jB}{J:Nat}
@[simp]def aiz (c:Nat) (b:aa Tmp) (e:Op) (i:ab) (g:String) (a:af Edge) (d:List Oper):Ga c (⟨b,e,i,g,a,none⟩::d)=[]:=id rfl
@[simp]def aiQ (i:Nat) (b:aa Tmp) (d:Op) (g:ab) (e:String) (a:af Edge) (c:List Oper):Oc i (⟨b,d,g,e,a,none⟩::c)=⟨b,d,g,e,a,none⟩::c:=id rfl
@[simp]def aiA (a b:Nat) (d:Bool) (e:aa Tmp) (i:Op) (k:ab) (j:String) (c:af Edge) (g:List Oper):Ga a (⟨e,i,k,j,c,some (b,d)⟩::g)=if a<=b then⟨e,i,k,j,c,some (b,d)⟩::Ga a g else []:=id rfl
@[simp]def aiR (a b:Nat) (e:Bool) (g:aa Tmp) (i:Op) (k:ab) (j:String) (d:af Edge) (c:List Oper):Oc a (⟨g,i,k,j,d,some (b,e)⟩::c)=if a<=b then Oc a c else⟨g,i,k,j,d,some (b,e)⟩::c:=id rfl
def xR(a:af Oper)(c:Oper)(g:List Oper)(b:Env)(h:H):
 ly cx cf J a (c::g) b h=Z (AD cx cf J a b h c) λi=>two i λj e=>Z (b.dst J c.dst j) λd=>ly cx cf J a g d e:=by
 show(Z (mI cx cf J a b h c) λi=>two i λd e=>ly cx cf J a g d e)=_;rw[tg]
def vk(b:af Oper):∀(c d:List Oper) (a:Env) (h:H),ly cx cf J b (c++d) a h=Z (ly cx cf J b c a h) λi=>two i λe g=>ly cx cf J b d e g
 | [],_,_,_=>rfl
 |o::c,d,a,h=>by
  rw[cM,xR,xR];cases AD cx cf J b a h o with
  |none=>rfl
  |some i=>
   obtain⟨j,g⟩:=i;simp only[eJ,lQ];cases a.dst J o.dst j with
   |none=>rfl
   |some e=>simp only[eJ];exact vk b c d e g
def tj(cx:Ctx)(cf:jB)(J:Nat)(b:af Oper)(a:List Oper)(d c:iz)(h:H):aa (Env×H):=ly cx cf J b a ⟨d,c⟩ h
def SG(l:aa (T×H))(cx:Ctx)(cf:jB)(J:Nat)(e:af Oper)(a:aa Tmp)(d:List Oper)(k i:iz):aa (Env×H):=
 Z l λg=>two g λj c=>Z (Env.dst J ⟨k,i⟩ a j) λb=>ly cx cf J e d b c
@[simp]def adp (c:af Oper) (b a:iz) (h:H):tj cx cf J c [] b a h=some (⟨b,a⟩,h):=id rfl
def TM(d b:iz)(a:Tmp)(c:T):Env.dst J ⟨d,b⟩ (some a) c=some (if(J>>>a)&&&1=1 then⟨put d a c,b⟩else⟨d,.cons a c b⟩):=by
 show @Bool.rec (λ_=>aa Env) (some ⟨d,.cons a c b⟩) (Z (mX d a c) λe=>some ⟨e,b⟩) (kS J a)=_;rw[qQ];have:=E2 J a;cases hl:kS J a with
 |true=>rw[aq (by rw[<-this];exact hl)];rfl
 |false=>rw[ao (by rw[<-this,hl];simp)]
@[simp]theorem agF (e:T) (h:H) (c:af Oper) (a:Tmp) (b:List Oper) (g d:iz):SG (some (e,h)) cx cf J c (some a) b g d=
 if(J>>>a)&&&1=1 then tj cx cf J c b (put g a e) d h else tj cx cf J c b g (.cons a e d) h:=by
 unfold SG;rw[eJ,lQ,TM,eJ];split<;>rfl
def G3(o:aa Tmp)(i:aa Bool)(m:Nat)(l:Bool)(cx:Ctx)(cf:jB)(J:Nat)(g:af Oper)(c:aa Tmp)(e:Op)(p:ab)(n:String)(k:af Edge)(d:List Oper)(b a:iz)(h:H):aa (Env×H):=
 SG (Z i λj=> @Bool.rec (λ_=>aa (T×H)) (some (.undef,h)) (fin cf h (jT e cx J ⟨b,a⟩ h)) j) cx cf J g c d b a
def LL(a:af Oper)(j:aa Tmp)(k:Op)(m:ab)(l:String)(i:af Edge)(c:Nat)(b:Bool)(d:List Oper)(g e:iz)(h:H)(n:aa Tmp):
 tj cx cf J a (⟨j,k,m,l,i,some (c,b)⟩::d) g e h=G3 n (lq a J ⟨g,e⟩ (some (c,b))) c b cx cf J a j k m l i d g e h:=xR a _ d _ h
@[simp]def Jl (b:List Oper) (i:aa Tmp) (k:Op) (m:ab) (l:String) (g:af Edge) (a:Nat) (c:Bool) (j:List Oper) (e d:iz) (h:H):
 tj cx cf J b.toArray (⟨i,k,m,l,g,some (a,c)⟩::j) e d h=G3 (Z (b[a]?) λn=>n.dst) (lq b.toArray J ⟨e,d⟩ (some (a,c))) a c cx cf J b.toArray i k m l g j e d h:=LL b.toArray i k m l g a c j e d h _
@[simp]def agL (m:aa Tmp) (k:Nat) (j:Bool) (g:af Oper) (c:aa Tmp) (e:Op) (n:ab) (l:String) (i:af Edge) (d:List Oper) (b a:iz) (h:H):G3 m (some true) k j cx cf J g c e n l i d b a h=SG (fin cf h (jT e cx J ⟨b,a⟩ h)) cx cf J g c d b a:=id rfl
@[simp]def afo (m:aa Tmp) (j:Nat) (i:Bool) (c:af Oper) (a:aa Tmp) (k:Op) (n:ab) (l:String) (g:af Edge) (b:List Oper) (e d:iz) (h:H):G3 m (some false) j i cx cf J c a k n l g b e d h=SG (some (.undef,h)) cx cf J c a b e d:=id rfl
def BGo(a:Bool)(g i:aa (Env×H))(cx:Ctx)(cf:jB)(J:Nat)(c:af Oper)(e:List Oper):aa (Env×H):=Z (bif a then g else i) λd=>two d λb h=>ly cx cf J c e b h
@[congr] theorem ab6 {a b:Bool} {g i j k:aa (Env×H)} {c:af Oper} {d e:List Oper} (l:a=b) (m:g=i) (n:j=k) (hr:d=e):BGo a g j cx cf J c d=BGo b i k cx cf J c e:=by rw[l,m,n,hr]
@[simp]theorem agT (a:Bool) (g d i e:iz) (h:H) (b:af Oper) (c:List Oper):BGo a (some (⟨g,d⟩,h)) (some (⟨i,e⟩,h)) cx cf J b c=tj cx cf J b c (Z6 a g i) (Z6 a d e) h:=by cases a<;>rfl
def Oa{e c:iz}{a:Tmp}{d:T}(g:(J>>>a)&&&1=0)(b:Env.get J ⟨e,c⟩ a=some d):d8 c a=some d:=by
 rw[DF,ao D]at b;exact b
def Rp{b:List Oper}{g:Tmp}{i:Bool}{a:List Oper}{d c:iz}{h:H}(e:Nat)(n:(J>>>g)&&&1=0)(m:Env.get J ⟨d,c⟩ g=some (.bool i)):
 tj cx cf J b.toArray a d c h=BGo i (tj cx cf J b.toArray (Ga e a) d (xy c g (.bool true)) h) (tj cx cf J b.toArray (Ga e a) d (xy c g (.bool false)) h) cx cf J b.toArray (Oc e a):=by
 have j:=Oa n m;have:tj cx cf J b.toArray a d c h=Z (tj cx cf J b.toArray (Ga e a) d c h) λo=>two o λk l=>ly cx cf J b.toArray (Oc e a) k l:=by
  show ly cx cf J b.toArray a ⟨d,c⟩ h=_
  conv=>lhs;rw[<-Q9 e a]
  exact vk _ _ _ _ _
 rw[this];cases i
 ·conv=>lhs;rw[<-vP j]
  rfl
 ·conv=>lhs;rw[<-vP j]
  rfl
def UU(d:List Oper)(b:Tmp)(o:Bool)(a:Nat)(c:Bool)(g:aa Tmp)(j:Op)(l:ab)(k:String)(e:af Edge)(i:List Oper)(n m:iz)(h:H)(r:Bool)
 (s:(J>>>b)&&&1=0) (p:(Z (d[a]?) λu=>u.dst)=some b) (q:Env.get J ⟨n,m⟩ b=some (.bool o)) (t:r=(o==c)):
 G3 (some b) (some r) a c cx cf J d.toArray g j l k e i n m h=
  BGo o (tj cx cf J d.toArray (Ga a (⟨g,j,l,k,e,some (a,c)⟩::i)) n (xy m b (.bool true)) h) (tj cx cf J d.toArray (Ga a (⟨g,j,l,k,e,some (a,c)⟩::i)) n (xy m b (.bool false)) h) cx cf J d.toArray (Oc a (⟨g,j,l,k,e,some (a,c)⟩::i)):=by
 subst t;rw[<-Rp a s q,Jl,p,DY,p,eJ,q,DX]
@[simp low] theorem agM (c:List Oper) (b:Tmp) (e:Bool) (a:Nat) (g:aa Tmp) (j:Op) (l:ab) (k:String) (d:af Edge) (i:List Oper) (n m:iz) (h:H)
 (q:(J>>>b)&&&1=0) (o:(Z (c[a]?) λr=>r.dst)=some b) (p:Env.get J ⟨n,m⟩ b=some (.bool e)):
 G3 (some b) (some e) a true cx cf J c.toArray g j l k d i n m h=
  BGo e (tj cx cf J c.toArray (Ga a (⟨g,j,l,k,d,some (a,true)⟩::i)) n (xy m b (.bool true)) h) (tj cx cf J c.toArray (Ga a (⟨g,j,l,k,d,some (a,true)⟩::i)) n (xy m b (.bool false)) h) cx cf J c.toArray (Oc a (⟨g,j,l,k,d,some (a,true)⟩::i)):=
 UU c b e a true g j l k d i n m h e q o p Y 
@[simp low] theorem agN (d:List Oper) (b:Tmp) (c:Bool) (a:Nat) (g:aa Tmp) (j:Op) (l:ab) (k:String) (e:af Edge) (i:List Oper) (n m:iz) (h:H)
 (q:(J>>>b)&&&1=0) (o:(Z (d[a]?) λr=>r.dst)=some b) (p:Env.get J ⟨n,m⟩ b=some (.bool !c)):
 G3 (some b) (some c) a false cx cf J d.toArray g j l k e i n m h=
  BGo (!c) (tj cx cf J d.toArray (Ga a (⟨g,j,l,k,e,some (a,false)⟩::i)) n (xy m b (.bool true)) h) (tj cx cf J d.toArray (Ga a (⟨g,j,l,k,e,some (a,false)⟩::i)) n (xy m b (.bool false)) h) cx cf J d.toArray (Oc a (⟨g,j,l,k,e,some (a,false)⟩::i)):=
 UU d b (!c) a false g j l k e i n m h c q o p (by cases c<;>rfl)
def G2(o:aa Tmp)(j:aa Bool)(m:Nat)(l:Bool)(cx:Ctx)(cf:jB)(J:Nat)(e:af Oper)(b:aa Tmp)(d:Op)(p:ab)(n:String)(k:af Edge)(c:List Oper)(i g:iz)(h:H)(a:jp):Prop:=GK j cx cf J e b d c i g h a
@[simp]def QJ (b:List Oper) (j:aa Tmp) (l:Op) (n:ab) (m:String) (i:af Edge) (a:Nat) (c:Bool) (k:List Oper) (e d:iz) (h:H) (g:jp):
 RK cx cf J b.toArray (⟨j,l,n,m,i,some (a,c)⟩::k) e d h g=G2 (Z (b[a]?) λo=>o.dst) (lq b.toArray J ⟨e,d⟩ (some (a,c))) a c cx cf J b.toArray j l n m i k e d h g:=fK b.toArray j l n m i a c k e d h g
@[simp]def agO (n:aa Tmp) (l:Nat) (k:Bool) (i:af Oper) (d:aa Tmp) (g:Op) (o:ab) (m:String) (j:af Edge) (e:List Oper) (b a:iz) (h:H) (c:jp):G2 n (some true) l k cx cf J i d g o m j e b a h c=XK (fin cf h (jT g cx J ⟨b,a⟩ h)) cx cf J i d e b a c:=id rfl
@[simp]theorem afp (n:aa Tmp) (k:Nat) (j:Bool) (d:af Oper) (b:aa Tmp) (l:Op) (o:ab) (m:String) (i:af Edge) (c:List Oper) (g e:iz) (h:H) (a:jp):G2 n (some false) k j cx cf J d b l o m i c g e h a=XK (some (.undef,h)) cx cf J d b c g e a:=by
 unfold XK;rw[BH];rfl
def BG(c:Bool)(g i:aa (Env×H))(cx:Ctx)(cf:jB)(J:Nat)(d:af Oper)(e:List Oper)(b:jp):Prop:=
 (c=true->∃a h,g=some (a,h)/\RK cx cf J d e a.vars a.tmps h b)/\(c=false->∃a h,i=some (a,h)/\RK cx cf J d e a.vars a.tmps h b)
@[congr] theorem afy {b c:Bool} {i j k l:aa (Env×H)} {d:af Oper} {e g:List Oper} {a:jp} (m:b=c) (n:i=j) (o:k=l) (hr:e=g):BG b i k cx cf J d e a=BG c j l cx cf J d g a:=by rw[m,n,o,hr]
@[simp]def aiq (c:Bool) (k i l j:iz) (h:H) (e:af Oper) (g:List Oper) (d:jp):BG c (some (⟨k,i⟩,h)) (some (⟨l,j⟩,h)) cx cf J e g d=RK cx cf J e g (Z6 c k l) (Z6 c i j) h d:=by
 unfold BG;apply propext;cases c
 ·constructor
  ·intro a;have⟨m,n,b,hr⟩:=a.2 rfl;simp only[ar,aB]at b;obtain⟨rfl,rfl⟩:=b;exact hr
  ·exact λa=>⟨λo=>by grind,λ_=>⟨_,_,rfl,a⟩⟩
 ·constructor
  ·intro a;have⟨m,n,b,hr⟩:=a.1 rfl;simp only[ar,aB]at b;obtain⟨rfl,rfl⟩:=b;exact hr
  ·exact λa=>⟨λ_=>⟨_,_,rfl,a⟩,λo=>by grind⟩
def abc(e:af Oper)(g q:List Oper)(j i:iz)(h:H)(k:jp):RK cx cf J e (g++q) j i h k=∃l a,tj cx cf J e g j i h=some (l,a)/\RK cx cf J e q l.vars l.tmps a k:=by
 apply propext;show(∃b a,ly cx cf J e (g++q) ⟨j,i⟩ h=some (b,a)/\k.n ⟨b.vars,.nil⟩ a)↔_;rw[vk];constructor
 ·rintro⟨b,a,c,p⟩;have⟨⟨m,o⟩,d,c⟩:=dX.1 c;exact⟨m,o,d,b,a,c,p⟩
 ·rintro⟨m,o,d,b,a,c,p⟩;have d:ly cx cf J e g ⟨j,i⟩ h=some (m,o):=d;exact⟨b,a,by rw[d];exact c,p⟩
def UV(i:List Oper)(k:Tmp)(o:Bool)(a:Nat)(b:Bool)(d:aa Tmp)(g:Op)(l:ab)(j:String)(c:af Edge)(e:List Oper)(n m:iz)(h:H)(p:jp)(t:Bool)
 (v:(J>>>k)&&&1=0) (q:(Z (i[a]?) λx=>x.dst)=some k) (r:Env.get J ⟨n,m⟩ k=some (.bool o)) (w:t=(o==b)):
 G2 (some k) (some t) a b cx cf J i.toArray d g l j c e n m h p=
  BG o (tj cx cf J i.toArray (Ga a (⟨d,g,l,j,c,some (a,b)⟩::e)) n (xy m k (.bool true)) h) (tj cx cf J i.toArray (Ga a (⟨d,g,l,j,c,some (a,b)⟩::e)) n (xy m k (.bool false)) h) cx cf J i.toArray (Oc a (⟨d,g,l,j,c,some (a,b)⟩::e)) p:=by
 subst w;have s:=Oa v r;have u:G2 (some k) (some (o==b)) a b cx cf J i.toArray d g l j c e n m h p=RK cx cf J i.toArray (⟨d,g,l,j,c,some (a,b)⟩::e) n m h p:=by
  rw[QJ,q,DY,q,eJ,r,DX]
 rw[u]
 conv=>lhs;rw[<-Q9 a (⟨d,g,l,j,c,some (a,b)⟩::e)]
 rw[abc];unfold BG;apply propext;cases o
 ·conv=>lhs;rw[<-vP s]
  simp
 ·conv=>lhs;rw[<-vP s]
  simp
@[simp low] theorem agP (c:List Oper) (b:Tmp) (e:Bool) (a:Nat) (g:aa Tmp) (j:Op) (l:ab) (k:String) (d:af Edge) (i:List Oper) (n m:iz) (h:H) (o:jp)
 (r:(J>>>b)&&&1=0) (p:(Z (c[a]?) λs=>s.dst)=some b) (q:Env.get J ⟨n,m⟩ b=some (.bool e)):
 G2 (some b) (some e) a true cx cf J c.toArray g j l k d i n m h o=
  BG e (tj cx cf J c.toArray (Ga a (⟨g,j,l,k,d,some (a,true)⟩::i)) n (xy m b (.bool true)) h) (tj cx cf J c.toArray (Ga a (⟨g,j,l,k,d,some (a,true)⟩::i)) n (xy m b (.bool false)) h) cx cf J c.toArray (Oc a (⟨g,j,l,k,d,some (a,true)⟩::i)) o:=
 UV c b e a true g j l k d i n m h o e r p q Y 
@[simp low] theorem agQ (d:List Oper) (b:Tmp) (c:Bool) (a:Nat) (g:aa Tmp) (j:Op) (l:ab) (k:String) (e:af Edge) (i:List Oper) (n m:iz) (h:H) (o:jp)
 (r:(J>>>b)&&&1=0) (p:(Z (d[a]?) λs=>s.dst)=some b) (q:Env.get J ⟨n,m⟩ b=some (.bool !c)):
 G2 (some b) (some c) a false cx cf J d.toArray g j l k e i n m h o=
  BG (!c) (tj cx cf J d.toArray (Ga a (⟨g,j,l,k,e,some (a,false)⟩::i)) n (xy m b (.bool true)) h) (tj cx cf J d.toArray (Ga a (⟨g,j,l,k,e,some (a,false)⟩::i)) n (xy m b (.bool false)) h) cx cf J d.toArray (Oc a (⟨g,j,l,k,e,some (a,false)⟩::i)) o:=
 UV d b (!c) a false g j l k e i n m h o c r p q (by cases c<;>rfl)
def abi{c:Bool}{g i:aa (Env×H)}{d:af Oper}{e:List Oper}{b:jp}(j:c=true->∃a h,g=some (a,h)/\RK cx cf J d e a.vars a.tmps h b)(k:c=false->∃a h,i=some (a,h)/\RK cx cf J d e a.vars a.tmps h b):BG c g i cx cf J d e b:=⟨j,k⟩
def L6{a d e:Bool}{h:H}{b c:aa mS}(g:a=true->b=some (.val (.bool d) h))(i:a=false->c=some (.val (.bool e) h)):ou (some (.bool a)) b c=some (.val (.bool (bif a then d else e)) h):=by
 cases a
 ·exact i rfl
 ·exact g rfl
@[simp]def afL (a b:aa mS):ou (some (.bool true)) a b=a:=id rfl
@[simp]def adE (b a:aa mS):ou (some (.bool false)) b a=a:=id rfl
@[simp]def aiD (a b c:Bool) (h:H):ou (some (.bool a)) (some (.val (.bool b) h)) (some (.val (.bool c) h))=some (.val (.bool (bif a then b else c)) h):=L6 (λ_=>rfl) (λ_=>rfl)
@[simp]def aiC (a c d b:Bool) (h:H) (g:a=false->b=true):ou (some (.bool a)) (some (.val (.bool c) h)) (some (.val (gT b (.bool d)) h))=some (.val (.bool (bif a then c else d)) h):=L6 (λ_=>rfl) (λe=>by rw[g e];rfl)
@[simp]def aiB (a c d b:Bool) (h:H) (g:a=true->b=true):ou (some (.bool a)) (some (.val (gT b (.bool c)) h)) (some (.val (.bool d) h))=some (.val (.bool (bif a then c else d)) h):=L6 (λe=>by rw[g e];rfl) (λ_=>rfl)
end
def lz(th:aj->aa mr):Op->Bool
 | .move _| .assign _| .pick .. | .load .. | .nilCheck _| .unOp .. | .binOp .. | .fieldAddr .. | .field .. | .indexAddr .. | .index .. | .extract .. | .slice .. =>true
 | .call b=>(match b.callee with
  | .builtin a=>(match a with| .len| .min| .max=>true|_=>false)
  | .value c=>(match c with| .func f=>(th f).isNone|_=>false)
  |_=>false)
 |_=>false
section
variable {th:aj->aa mr}
@[simp]def afI (a:ah):lz th (.move a)=true:=id rfl
@[simp]def abt (a:ah):lz th (.assign a)=true:=id rfl
@[simp]def afH (a b c:ah):lz th (.pick a b c)=true:=id rfl
@[simp]def afJ (a:ab) (b:ah):lz th (.load a b)=true:=id rfl
@[simp]def Ya (a:ah):lz th (.nilCheck a)=true:=id rfl
@[simp]def afG (a:UnOp) (b:ab) (c:ah):lz th (.unOp a b c)=true:=id rfl
@[simp]def adA (a:BinOp) (b:ab) (d e:ah) (c:ab):lz th (.binOp a b d e c)=true:=id rfl
@[simp]def VA (a:ab) (b:ah) (f:Nat):lz th (.fieldAddr a b f)=true:=id rfl
@[simp]def Vz (a:ab) (b c:ah):lz th (.indexAddr a b c)=true:=id rfl
@[simp]def Zw (b:ah) (a:Nat):lz th (.extract b a)=true:=id rfl
@[simp]def adx (d:ab) (e:ah) (a b c:aa ah):lz th (.slice d e a b c)=true:=id rfl
@[simp]def ady (f:aj) (a:af ah) (b:af ab):lz th (.call ⟨.value (.func f),a,b⟩)=(th f).isNone:=id rfl
@[simp]def ahf (a:af ah) (b:af ab):lz th (.call ⟨.builtin .len,a,b⟩)=true:=id rfl
@[simp]def ahe (a:af ah) (b:af ab):lz th (.call ⟨.builtin .min,a,b⟩)=true:=id rfl
@[simp]def adB (a:ab):lz th (.alloc a)=false:=id rfl
@[simp]def adw (a:ab) (b c:ah):lz th (.store a b c)=false:=id rfl
@[simp]def adz (b:ab) (a:af (Nat×ah)):lz th (.build b a)=false:=id rfl
@[simp]def U4 (c:ab) (a:Nat) (b:af (Nat×ah)):lz th (.buildSlice c a b)=false:=id rfl
end
def Kp(th:aj->aa mr)(h:H)(e:aa mS):Prop:=∀a,e=some a->(∀d b,a= .val d b->b=h)/\∀f c,a= .call f c->th f=none
section
variable {th:aj->aa mr}{h:H}
theorem Kp.val(b:aa T):Kp th h (val h b):=by
 intro c a;have⟨d,_,a⟩:=dX.1 a
 grind
def Kp.one(a:T):Kp th h (some (.val a h)):=Kp.val (some a)
theorem Kp.none:Kp th h none:=by intro a b;grind
theorem Kp.Z{α:Type}{e:aa α}{f:α->aa mS}(d:∀a,Kp th h (f a)):Kp th h (Z e f):=by
 intro c b;have⟨a,_,b⟩:=dX.1 b;exact d a c b
theorem Kp.iG{b:Bool}{a:aa mS}(e:Kp th h a):Kp th h (iG b a):=by
 intro c d;exact e c (ew.1 d).2
def ZG{m:Op}(e:lz th m=true)(cx:Ctx)(J:Nat)(s:Env):Kp th h (jT m cx J s h):=by
 cases m<;>first|(simp[lz]at e;done)|skip
 case move x=>exact Kp.val _
 case assign x=>exact Kp.val _
 case pick k n j=>
  rw[V5];unfold ou;refine Kp.Z λa=>?_;cases a<;>first|exact Kp.none|grind [Kp.val]
 case load b n=>simp[Kp.val,Kp.Z]
 case nilCheck x=>exact Kp.Z λa=>by cases a<;>first|exact Kp.none|exact Kp.one _
 case unOp i b x=>simp[Kp.val,Kp.Z]
 case binOp i b x p E=>
  cases i<;>first
   |exact Kp.Z λ_=>Kp.Z λ_=>Kp.val _
   |exact Kp.Z λ_=>Kp.Z λ_=>Kp.Z λ_=>Kp.iG (Kp.Z λ_=>Kp.val _)
 case fieldAddr b x f=>
  exact Kp.Z λt=>Kp.Z λa=>by
   cases a<;>first|exact Kp.none|exact Kp.Z λ_=>Kp.one _
 case field b x f=>
  exact Kp.Z λt=>Kp.Z λ_=>Kp.Z λa=>by
   cases a<;>first|exact Kp.none|simp[Kp.val,Kp.Z]
 case indexAddr b x g=>
  exact Kp.Z λd=>Kp.Z λa=>Kp.Z λ_=>Kp.Z λg=>by
   cases d.u<;>first|exact Kp.none|(refine Kp.Z λv=>?_;first
    |(cases a<;>first|exact Kp.none|exact Kp.Z λ_=>Kp.iG (Kp.one _)|exact Kp.iG (Kp.Z λ_=>Kp.iG (Kp.iG (Kp.Z λ_=>Kp.one _))))
    |(refine Kp.iG ?_;cases a<;>first|exact Kp.none|exact Kp.Z λ_=>Kp.one _|(refine Kp.Z λq=>?_;cases Nat.beq q.sz v.size<;>first|exact Kp.Z λ_=>Kp.one _|simp[Kp.one,Kp.iG])))
 case index b x g=>
  exact Kp.Z λd=>Kp.Z λa=>Kp.Z λ_=>Kp.Z λg=>by
   cases d.u<;>first|exact Kp.none|(cases a<;>first|exact Kp.none|exact Kp.Z λ_=>Kp.val _|grind [Kp.val,Kp.Z,Kp.iG])
 case extract x g=>exact Kp.Z λa=>by cases a<;>first|exact Kp.none|exact Kp.val _
 case slice b x n j k=>exact Kp.Z λ_=>Kp.Z λ_=>Kp.iG (Kp.Z λ_=>Kp.Z λ_=>Kp.Z λ_=>Kp.iG (Kp.val _))
 rename_i k;obtain⟨r,w,C⟩:=k;cases r with
 |builtin j=>
  refine Kp.Z λl=>?_;cases j<;>first
   |(simp[lz]at e;done)
   |(match l with
    | []=>exact Kp.none
    | [x]=>first|exact Kp.none|(refine Kp.Z λb=>Kp.Z λd=>?_;cases d.u<;>first|exact Kp.none|exact Kp.val _|(cases x<;>first|exact Kp.none|exact Kp.val _))
    | [x,p]=>first|exact Kp.val _|exact Kp.none
    |x::p::F::l=>exact Kp.none)
 |value i=>
  cases i with
  |func f=>
   have z:(th f).isNone=true:=e;refine Kp.Z λl=>?_;intro y c;obtain⟨a,o,c⟩:=dX.1 c;simp only[PE,ar]at o;subst o;obtain⟨B,_,c⟩:=dX.1 c;simp only[ar]at c;subst c;simp_all
  |_=>simp[lz]at e
 |_=>grind [lz]
end
section
variable {P:ai}{cx:Ctx}{tb:gG}{J:Nat}
def TG{j:Op}(o:lz tb.h j=true){e:Env}{h:H}{k:T}{c:H}(a:fin (sq P cx tb) h (jT j cx J e h)=some (k,c)):c=h:=by
 have⟨d,m,a⟩:=dX.1 a;have⟨r,p⟩:=ZG o cx J e d m;rcases d with⟨t,q⟩|⟨f,b⟩
 ·simp only[ar,aB]at a;rw[<-a.2];grind
 ·have n:=p _ _ rfl;have a:sq P cx tb f b h=some (k,c):=a;have g:hl P cx tb f b h=none:=by unfold hl;rw[n]
  rw[T8]at a;cases i:Uy h b with
  |none=>rw[i,T6,g]at a;grind
  |some l=>
   rw[i,T5,g]at a;cases hr:rl P cx tb f l with
   |none=>rw[hr]at a;simp at a
   |some s=>
    rw[hr,T7]at a
    grind
def F2(j:af Oper)(k:List (Nat×Nat))(Q:iz->H->Prop):∀(g:List Oper) (e:Nat) (m:List (Nat×Nat)) (d:List (Nat×H×H)) (b a:iz) (h:H),(g.all λo=>lz tb.h o.op)=true->(∀l∈d,l.2.1=l.2.2)->
 Ng cx (sq P cx tb) J j k g e m d b a h Q=WR cx (sq P cx tb) J j g b a h Q
 | [],e,m,d,b,a,h,_,_=>by rw[OR,UP]
 |o::g,e,m,d,b,a,h,n,q=>by
  simp only[cB,ax]at n;rw[Le,I3];unfold AD;cases lq j J ⟨b,a⟩ o.guard with
  |none=>apply propext;constructor<;>(first|exact False.elim|(rintro⟨i,c,I,_⟩;simp_all))
  |some C=>
   rw[eJ];cases C with
   |false=>
    rw[Lf,BH];congr 1;funext b a;exact F2 j k Q g _ m d b a h n.2 q
   |true=>
    rw[OS];apply propext;have K:∀i c,fin (sq P cx tb) h (jT o.op cx J ⟨b,a⟩ h)=some (i,c)->
     ((DK cx J k e m d o.op ⟨b,a⟩ h c λm d=>WD J o.dst i b a λb a=>Ng cx (sq P cx tb) J j k g (e+1) m d b a c Q)↔WD J o.dst i b a λb a=>WR cx (sq P cx tb) J j g b a c Q):=by
     intro i c y;have z:=TG n.1 y;subst z;have E:∀s,nV k e s d:=λs l n _=>by rw[q l n];simp
     have F:∀u v i,o.op≠ .store u v i:=λu v i B=>by have:=n.1;rw[B]at this;simp_all
     have t:∀r p,(∀l∈p,l.2.1=l.2.2)->((WD J o.dst i b a λb a=>Ng cx (sq P cx tb) J j k g (e+1) r p b a c Q)↔WD J o.dst i b a λb a=>WR cx (sq P cx tb) J j g b a c Q):=by
      intro r p w;rw[show(λb a=>Ng cx (sq P cx tb) J j k g (e+1) r p b a c Q)=λb a=>WR cx (sq P cx tb) J j g b a c Q from by funext b a;exact F2 j k Q g _ r p b a c n.2 w]
     unfold DK;split
     ·rw[MP];show(True/\_)/\(WD J o.dst i b a λb a=>Ng cx (sq P cx tb) J j k g (e+1) m (if mM k e=true then(e,c,c)::d else d) b a c Q)↔_;have x:∀l∈(if mM k e=true then(e,c,c)::d else d),l.2.1=l.2.2:=by
       grind
      rw[t _ _ x]
      grind
     ·cases iM cx J ⟨b,a⟩ c o.op with
      |none=>exact t _ _ q
      |some s=>simp only;rw[t _ _ q];grind
    show(∃i c,_/\_)↔∃i c,_/\_
    grind
@[simp high] theorem agH (a:List Oper) (d:List (Nat×Nat)) (b:iz) (h:H) (c:jp) (e:(a.all λg=>lz tb.h g.op)=true):QK cx (sq P cx tb) J a (some d) b h c=RK cx (sq P cx tb) J a.toArray a b .nil h c:=
 F2 a.toArray d (λb h=>c.n ⟨b,.nil⟩ h) a 0 [] [] b .nil h e (λj i=>by grind)
end
def Hm(b:T):Prop:=∃a,b= .int .i64 a
@[simp]def afU (a:Int):Hm (.int .i64 a)=True:=by simp[Hm]
section
variable {P:ai}{cx:Ctx}{f:aj}{α:Type}{A:α->List T}{pre:α->Prop}{Q:α->T->Prop}
noncomputable abbrev o9.jX(_:o9 P cx f A pre Q):iy:=wR P cx f A pre Q
def o9.use(c:o9 P cx f A pre Q)(a:α)(b:pre a):∃d,Q a d/\∀{tb:gG},tb.p f=some (wR P cx f A pre Q)->rl P cx tb f (A a)=some d:=⟨_,c.2 a b,λht=>iA ht c.1 a b⟩
end
section
variable {P:ai}{cx:Ctx}{f:aj}{α γ:Type}{A:α->List T}{pre:α->Prop}
def o9.fnI(d:o9 P cx f A pre (λ_=>Hm))(b:γ->α)(c:∀a,pre (b a)):∃e:γ->Int,∀{tb:gG},tb.p f=some (wR P cx f A pre (λ_=>Hm))->∀a,rl P cx tb f (A (b a))=some (.int .i64 (e a)):=by
 refine⟨λa=>(d.2 (b a) (c a)).choose,λht a=>?_⟩;exact(iA ht d.1 (b a) (c a)).trans (bO some (d.2 (b a) (c a)).choose_spec)
end
@[simp]def aiV (a:jv):iE 1 (hE.cons a)=True:=by simp;exact⟨Y,Y,Y⟩
@[simp]def aiU (a b:jv):iE 2 ((hE.cons a).cons b)=True:=by simp;exact⟨Y,Y,Y⟩
@[simp]def aiT (b c d a:jv):iE 4 ((((hE.cons b).cons c).cons d).cons a)=True:=by simp;exact⟨Y,Y,Y⟩
def pP(a:ak)(b c:Int):binop .add (.int a b) (.int a c)=some (.int a (a.wrap (b+c))):=by
 show iG (F8 a a) (rS a (b+c))=_;simp
def tZ(a:ak)(b c:Int):binop .sub (.int a b) (.int a c)=some (.int a (a.wrap (b-c))):=by
 show iG (F8 a a) (rS a (b-c))=_;simp
def ad2(a:ak)(b c:Int):binop .mul (.int a b) (.int a c)=some (.int a (a.wrap (b*c))):=by
 show iG (F8 a a) (rS a (b*c))=_;simp
def Kq(c:T):Prop:=∃a b,c= .tuple [.int .i64 a,.int .i64 b]
@[simp]def afV (a b:Int):Kq (.tuple [.int .i64 a,.int .i64 b])=True:=by simp[Kq]
