/- TiObj -/
import Derived.Test.YtalknpnbaceflaaGreatDoorA8
set_option linter.all false
namespace Go.TI
noncomputable section
section
section
variable {cx:Ctx}{D:Nat}{e:Env}
@[simp]def aaG (a:ao) (b:Int):qg (.int a b)=some (.int a b):=id rfl
@[simp]def Zi:qg (.slice none 0 0)=some (.V [] false):=id rfl
@[simp]def aaF (a:ByteArray):qg (.string a)=some (.str (a.data.toList.map UInt8.toNat)):=Tl (cx:=⟨λ_=>none,λ_=>none,λ_=>none⟩) (D:=0) (e:=⟨.nil,.nil⟩) a
@[simp]def aeq (a:List aq):iG cx D e (.const (.agg a.toArray))=J (iH qg a) λb=>some (.eZ b):=id rfl
end
@[simp]theorem Vk (a:List T):fq (sl a)=none:=by cases a<;>rfl
@[simp]def oT1 (a:T):kI [a]=a:=id rfl
@[simp]def oT2 (a b:T) (c:List T):kI (a::b::c)= .tuple (a::b::c):=id rfl
@[simp]def oT0:kI []= .tuple []:=id rfl
@[simp]def aiC (a:H):(hr a).low=a.size:=id rfl
@[simp]def aab (a:H) (d f:jK) (b:Nat) (c:¬b=a.size):gU (a.cons d) (a.cons f) b=true:=by
 unfold gU;rw[fk,fk,Z c,Z c];cases a.get b<;>simp
def il{h h':H}{b:Nat}(a:h'.get b=h.get b):gU h h' b=true:=by
 unfold gU;rw[a];cases h.get b<;>simp
def Fp(d:H)(b a:Nat):Prop:=a=b\/∃c,d.get b=some c/\∃f∈iq c.gW,fq f=some a
structure Step(w:Nat)(h h':H):Prop where
 ok:iQ h.size h'
 get:∀b,b<h.size->¬Fp h w b->h'.get b=h.get b
 fp:∀b,Fp h' w b->Fp h w b\/h.size<=b
theorem jJ{c d:H}{a:Nat}(f:d.get a=c.get a)(b:Nat):Fp d a b=Fp c a b:=by unfold Fp;rw[f]
def Step.refl{d:Nat}{a:H}(b:iQ 0 a):Step d a a:=⟨⟨b.hp,b.low,ax _⟩,λ_ _ _=>rfl,λ_ c=> .inl c⟩
def Step.trans{g:Nat}{h d i:H}(a:Step g h d)(c:Step g d i):Step g h i:=by
 refine⟨⟨c.ok.hp,c.ok.low,aU a.ok.sz c.ok.sz⟩,λb f j=>?_,λb f=>?_⟩
 ·have d:=a.get b f j;have:=a.ok.sz;rw[c.get b B (λk=>(a.fp b k).elim j λk=>absurd k B),d]
 ·rcases c.fp b f with k|k
  ·exact a.fp b k
  ·exact .inr (aU a.ok.sz k)
structure Lb(w:Nat)(h:H)(b:Nat)(x:jK):Prop where
 get:h.get b=some x
 nf:¬Fp h w b
def Lb.lt{d:Nat}{b:H}{a:Nat}{f:jK}(c:Lb d b a f):a<b.size:=H.gh c.get
def Lb.ne{a:Nat}{c:H}{b:Nat}{g:jK}(f:Lb a c b g):b≠a:=λd=>f.nf (.inl d)
def Lb.step{d:Nat}{f g:H}{b:Nat}{i:jK}(a:Lb d f b i)(h:Step d f g):Lb d g b i:=
 ⟨by rw[h.get b a.lt a.nf];exact a.get,λc=>(h.fp b c).elim a.nf λc=>absurd c (by have:=a.lt;omega)⟩
theorem Step.cons{w:Nat}{a:H}(c:iQ 0 a)(i:w<a.size)(b:jK):Step w a (a.cons b):=by
 have f:(a.cons b).get w=a.get w:=by rw[fk,Z B]
 exact⟨⟨(c.cons b).hp,(c.cons b).low,G⟩,λd h _=>by rw[fk,Z B],λd g=>by rw[jJ f]at g;grind⟩
def Lb.new{a:Nat}{h:H}(j:a<h.size)(g:∀b,Fp h a b->b<h.size)(c:jK):Lb a (h.cons c) h.size c:=by
 have i:(h.cons c).get a=h.get a:=by rw[fk,Z B]
 exact⟨G,λd=>by rw[jJ i]at d;have:=g _ d;omega⟩
def Step.qJ{c:Nat}{b:H}(k:iQ 0 b){a:Nat}{o:jK}(h:Lb c b a o)(d:jK)(g:H)(i:Step c g b)(p:g.size<=a):Step c g (fJ b a d):=by
 have m:(fJ b a d).get c=b.get c:=by rw[eG h.get,Z (bE h.ne)]
 refine⟨⟨(k.put a d).hp,(k.put a d).low,by rw[iy];exact i.ok.sz⟩,λf l n=>?_,λf j=>?_⟩
 ·rw[eG h.get,Z B];exact i.get f l n
 ·rw[jJ m]at j;exact i.fp f j
theorem Step.put{b:Nat}{a:H}(i:iQ 0 a){x:jK}(h:a.get b=some x)(d:jK)(q:∀j∈iq d.gW,∀f,fq j=some f->Fp a b f\/a.size<=f):Step b a (fJ a b d):=by
 refine⟨⟨(i.put b d).hp,(i.put b d).low,by rw[iy];omega⟩,λc o k=>?_,λc g=>?_⟩
 ·rw[eG h,Z (λg=>k (.inl g))]
 ·rcases g with rfl|⟨r,l,j,p,m⟩
  ·exact .inl (.inl rfl)
  ·rw[eG h,au rfl]at l
   grind
def Step.aee{c:Nat}{b:H}(h:iQ 0 b){a:Nat}{m:jK}(f:b.get a=some m)(j:Fp b c a)(l:a≠c)(d:jK):Step c b (fJ b a d):=by
 have o:(fJ b a d).get c=b.get c:=by rw[eG f,Z (bE l)]
 refine⟨⟨(h.put a d).hp,(h.put a d).low,by rw[iy];omega⟩,λi n k=>?_,λi g=>?_⟩
 ·rw[eG f,Z (λg=>k (by rw[g];exact j))]
 grind [jJ]
def Step.OJ{f:Nat}{g c:H}(d:Step f g c){b:H}(h:∀a,b.get a=c.get a)(m:b.size=c.size)(j:iQ 0 b):Step f g b:=
 ⟨⟨j.hp,j.low,by rw[m];exact d.ok.sz⟩,λa k l=>by rw[h];exact d.get a k l,λa i=>by rw[jJ (h f)]at i;exact d.fp a i⟩
def ZI(b:H)(c a:Nat):Fp (hr b) c a=Fp b c a:=jJ (iU b c) a
def Step.hr{f:Nat}{c d:H}(a:Step f (hr c) d):Step f c d:=
 ⟨⟨a.ok.hp,a.ok.low,a.ok.sz⟩,λb g h=>by rw[a.get b g (by rw[ZI];exact h),iU],λb i=>by have:=a.fp b i;rw[ZI]at this;exact this⟩
def iQ.hr{b:Nat}{a:H}(c:iQ b a):iQ b (hr a):=⟨by rw[afd];exact c.hp,ax _,c.sz⟩
def Gr(h:H)(d:T)(i:Nat)(a:List T):Prop:=
 (d= .V [] false/\a=[])\/∃b c j g f,d= .arr b c 0 a.length false/\h.get b=some ⟨i,c,j,g,false,f⟩/\f.take a.length=a
theorem Gr.nil(a:H)(b:Nat):Gr a (.V [] false) b []:= .inl ⟨rfl,rfl⟩
theorem Gr.jc{d:H}{a:T}{f:Nat}{b:List T}(c:Gr d a f b):a.jc=true:=by
 rcases c with⟨rfl,_⟩|⟨g,h,j,i,k,rfl,_⟩<;>rfl
theorem Gr.cells{d:H}{a:T}{f:Nat}{b:List T}(c:Gr d a f b):a.cells=[a]:=by
 rcases c with⟨rfl,_⟩|⟨g,h,j,i,k,rfl,_⟩<;>rfl
def Gr.mono{d h':H}{b:T}{f:Nat}{c:List T}(i:Gr d b f c)(l:∀a,fq b=some a->h'.get a=d.get a):Gr h' b f c:=by
 rcases i with⟨rfl,rfl⟩|⟨a,g,m,h,n,rfl,j,k⟩
 ·exact .inl ⟨rfl,rfl⟩
 ·exact .inr ⟨a,g,m,h,n,rfl,by rw[l a rfl];exact j,k⟩
def Gr.box{g:H}{c:T}{h:Nat}{d:List T}(k:Gr g c h d){b:Nat}(l:fq c=some b):∃a i f j,g.get b=some ⟨h,a,i,f,false,j⟩/\c= .arr b a 0 d.length false:=by
 rcases k with⟨rfl,_⟩|⟨m,a,i,f,j,rfl,n,o⟩
 ·simp at l
 simp_all
def Gr.ne{a:H}{f g:T}{c d:Nat}{h Ea:List T}(i:Gr a f c h)(j:Gr a g d Ea)(o:c≠d):∀b,fq f=some b->fq g≠some b:=λb k l=>by
 have⟨_,_,_,_,m,_⟩:=i.box k;have⟨_,_,_,_,n,_⟩:=j.box l;rw[m]at n;grind
def Gr.j1{b:H}{c:T}{h:Nat}{a:List T}(d:Gr b c h a):b.j1 c=some a:=by
 rcases d with⟨rfl,rfl⟩|⟨j,k,m,l,i,rfl,f,g⟩
 ·rfl
 ·have hl:a.length<=i.length:=by have:=bL List.length g;rw[List.length_take]at this;omega
  rw[iR,f];simp_all
def Gr.len{cx:Ctx}{g:H}{d:T}{h:Nat}{a:List T}(f:Gr g d h a)(b:H)(c:Ty)(i:af)(o:c.u= .slice i):Hm cx b c d=some (.val (.int .i64 a.length) b):=by
 rcases f with⟨rfl,rfl⟩|⟨j,k,p,l,q,rfl,m,n⟩
 ·simp_all
 simp_all
def Gr.Bd{c:H}{j:T}{h:Nat}{f:List T}(m:Gr c j h f){te:Ty}(p:te.size=h){i:Nat}(o:i<f.length):∃a b k g d,fq j=some a/\mo c te j i=some (.val (.fc a b i 0) c)/\c.get a=some ⟨h,b,k,g,false,d⟩/\d[i]? =some f[i]:=by
 rcases m with⟨rfl,rfl⟩|⟨a,b,k,g,d,rfl,l,n⟩
 ·grind
 ·refine⟨a,b,k,g,d,rfl,?_,l,?_⟩
  ·rw[Ux,l];simp_all
  grind
def Gr.rZ{a:H}{d:T}{j:Nat}{h:Type}{f:h->T}{b:List h}(c:Gr a d j (b.map f))(p:∀g,Ae a 11 (f g)=some (f g)):TI.rZ a d=some (sl (b.map f)):=by
 have q:=c.j1;rcases c with⟨rfl,i⟩|⟨k,l,r,m,s,rfl,n,o⟩
 ·rw[i];rfl
 simp_all
def Gr.cut{cx:Ctx}{b:H}{i:T}{h:Nat}{a:List T}(m:Gr b i h a){ty te:Ty}{f:af}(p:ty.u= .slice f)(ht:cx.ty f=some te)(t:te.size=h){n:Nat}(c:n<=a.length)(s:0<a.length):
 ∃j,Kq cx b ty i none (some n) none=some (.val j b)/\Gr b j h (a.take n)/\fq j=fq i:=by
 rcases m with⟨rfl,rfl⟩|⟨d,g,q,l,r,rfl,k,o⟩
 ·grind
 ·refine⟨.arr d g 0 n false,OH ty te f d g 0 a.length n false _ p ht k (by grind) c,.inr ⟨d,g,q,l,r,by rw[List.length_take,cE c],k,?_⟩,rfl⟩;rw[List.length_take,cE c,<-o,List.take_take,cE c]
def Ei(c:H)(h:T)(j:Nat)(g:List T)(k:T)(d:H):Prop:=∃a f l i,k= .arr a f 0 g.length false/\d.get a=some ⟨j,f,l,i,false,g⟩/\
 (fq h=some a\/(fq h=none/\a=c.size))/\(∀b,b≠a->b<c.size->d.get b=c.get b)/\iQ c.size d
def Ei.gr{j:H}{l:T}{c:Nat}{a:List T}{d:T}{b:H}(f:Ei j l c a d b):Gr b d c a:=by
 obtain⟨g,h,m,i,rfl,k,_⟩:=f;exact .inr ⟨g,h,m,i,a,rfl,k,aL⟩
def Ei.set{i:H}{m:T}{d b c h:Nat}{f:Bool}{a:List T}{g:H}(o:Ei i m d a (.arr b c 0 a.length false) g)(k:g.get b=some ⟨d,c,h,f,false,a⟩)(l:Nat)(n:T):
 Ei i m d (a.set l n) (.arr b c 0 a.length false) (fJ g b ⟨d,c,h+1,f,false,a.set l n⟩):=by
 obtain⟨s,u,y,v,j,w,p,x,q⟩:=o;simp only[T.arr.injEq,and_true]at j;obtain⟨rfl,rfl⟩:=j;exact⟨b,c,h+1,f,by rw[dg],by rw[eG k,au rfl],p,λt r hl=>by rw[eG k,Z r];grind,q.put _ _⟩
def Gr.app{cx:Ctx}{a:H}{j:T}{f:Nat}{d:List T}(D:Gr a j f d)(k:iQ 0 a){p q l:af}{w y g:Ty}(E:cx.ty p=some w)(F:w.u= .slice l)(I:cx.ty l=some g)(J:cx.ty q=some y)(K:y.u= .slice l)(t:g.size=f)(M:1<=g.bytes)
 {x:T} {xs:List T} (N:a.j1 x=some xs) (v:∀e∈xs,e.cells.length=f) (U:xs≠ []) (S:(d.length+xs.length)*g.bytes<=70368744177664):
 ∃z s,jx cx a p q j x=some (.val z s)/\Ei a j f (d++xs) z s:=by
 have L:jx cx a p q j x=kr (a.append g.size g.bytes j xs):=by
  unfold jx ql nD;rw[E,fw,J,fw];simp only[F,I,K,N,fw];rw[t,mc v,jf]
 rw[L,t];obtain⟨b,c,rfl⟩:∃b c,xs=b::c:=by cases xs with|nil=>grind|cons b c=>simp
 rcases D with⟨rfl,rfl⟩|⟨h,i,r,R,Q,rfl,o,O⟩
 ·refine⟨_,a.cons ⟨f,0,0,false,false,b::c⟩,?_,a.size,0,0,false,rfl,G,.inr ⟨rfl,rfl⟩,λA m _=>by rw[fk,Z m],(k.cons _).hp,(k.cons _).low,G⟩;show kr (a.jH f g.bytes [] (b::c))=_;rw[qW v M (by grind)];rfl
 ·refine⟨.arr h (i+1) 0 (d++b::c).length false,fJ a h ⟨f,i+1,r+1,false,false,d++b::c⟩,?_,h,i+1,r+1,false,rfl,by rw[eG o,au rfl],.inl rfl,λA m _=>by rw[eG o,Z m],(k.put _ _).hp,(k.put _ _).low,by rw[iy];omega⟩;show kr (a.oz f g.bytes h i d.length (b::c))=_;have hl:d.length<=Q.length:=by have:=bL List.length O;rw[List.length_take]at this;omega
  have:a.oz f g.bytes h i d.length (b::c)=some (.arr h (i+1) 0 (d++b::c).length false,fJ a h ⟨f,i+1,r+1,false,false,d++b::c⟩):=by
   unfold H.oz;rw[o];simp_all[BE,mc,jt,kE,qY,pR,fw,aV]
  rw[this];rfl
def Xt(b:H)(d:T)(h:Nat)(g:List T)(f:T)(c:H):Prop:=Gr c f h g/\(∀a,a<b.size->fq d≠some a->c.get a=b.get a)/\(∀a,fq f=some a->fq d=some a\/b.size<=a)/\iQ b.size c
def Ei.xt{c:H}{g:T}{f:Nat}{b:List T}{h:T}{d:H}(a:Ei c g f b h d):Xt c g f b h d:=by
 have j:=a.gr;obtain⟨m,n,s,e,rfl,o,p,q,k⟩:=a;refine⟨j,λi l r=>?_,λi l=>?_,k⟩
 ·grind
 grind [id,aw,Di]
def Xt.refl{a:H}{b:T}{f:Nat}{c:List T}(g:Gr a b f c)(d:iQ 0 a):Xt a b f c b a:=⟨g,λ_ _ _=>rfl,λ_ h=> .inl h,d.hp,d.low,ax _⟩
def Xt.trans{d f g:H}{j k l:T}{c:Nat}{q Ea:List T}(m:Xt d j c q k f)(n:Xt f k c Ea l g):Xt d j c Ea l g:=by
 obtain⟨_,a2,a3,a4⟩:=m;obtain⟨o,p,s,b⟩:=n;have:=a4.sz;refine⟨o,λa h i=>?_,λa h=>?_,b.hp,b.low,aU a4.sz b.sz⟩
 ·rw[p a B (λr=>(a3 a r).elim i (λt=>by omega)),a2 a h i]
 grind
theorem Xt.cons{c d:H}{g h:T}{f:Nat}{b:List T}(i:Xt c g f b h d)(a:jK):Xt c g f b h (d.cons a):=by
 obtain⟨a1,a2,a3,a4⟩:=i;have:=a4.sz;refine⟨a1.mono λl j=>?_,λm n o=>?_,a3,(a4.cons a).hp,(a4.cons a).low,(a4.cons a).sz⟩
 ·have⟨_,_,_,_,k,_⟩:=a1.box j;have:=H.gh k;rw[fk,Z B]
 ·rw[fk,Z B];grind
def zu{b:Nat}{c f:H}{k o:T}{x t F i:Nat}{A:Bool}{I:List T}{l:List T}(bs:iQ 0 c)(R:∀a,Fp c b a->a<c.size)(n:c.get b=some ⟨t,0,F,A,false,[.eZ l]⟩)(an:l[i]? =some k)(a8:x≠t)
 {Q:List T} (ab:Gr c k x Q) (U:Xt c k x I o f):f.get b=c.get b/\∀g,g=(⟨t,0,F+1,A,false,[.eZ (l.set i o)]⟩:jK)->
  Step b c (fJ f b g)/\(∀a,Fp (fJ f b g) b a->a<(fJ f b g).size)/\Gr (fJ f b g) o x I/\
   ∀r y Ea,r∈l->Gr c r y Ea->(∀a,fq k=some a->fq r≠some a)->y≠t->Gr (fJ f b g) r y Ea/\∀a,fq o=some a->fq r≠some a:=by
 have ap:=H.gh n;have bi:k∈l:=aC an;obtain⟨K,E,av,S⟩:=U;have ae:∀a,fq k=some a->a≠b:=λa d q=>by
  subst q;have⟨_,_,_,_,j,_⟩:=ab.box d;rw[n]at j;grind
 have aE:Step b c f/\f.get b=c.get b/\(∀a,fq o=some a->a≠b/\(fq k=some a\/c.size<=a))/\(∀a,a≠b->fq k≠some a->a<c.size->f.get a=c.get a):=by
  have M:f.get b=c.get b:=E b ap λj=>ae b j rfl;refine⟨⟨S,λp m D=>E p m λj=>D (.inr ⟨_,n,k,by grind [T.cells,iq],j⟩),λp m=>by rw[jJ M]at m;grind⟩,M,λp m=>⟨?_,av p m⟩,λp _ m hl=>E p hl m⟩
  grind
 obtain⟨w,J,O,bp⟩:=aE;refine⟨J,λg bn=>?_⟩;have s:f.get b=some ⟨t,0,F,A,false,[.eZ l]⟩:=J.trans n;have al:(fJ f b g).get b=some g:=by rw[eG s,au rfl]
 have W:∀h∈iq g.gW,h∈l\/h=o:=by
  grind [T.cells,iq,cH]
 have a6:∀h∈l,∀a,fq h=some a->Fp c b a:=λh u a d=> .inr ⟨_,n,h,by grind [T.cells,iq],d⟩;have aA:Step b c (fJ f b g):=by
  have N:iQ 0 f:=⟨w.ok.hp,w.ok.low,ay _⟩;refine⟨⟨(N.put b g).hp,(N.put b g).low,by rw[iy];exact w.ok.sz⟩,λa d D=>?_,λa d=>?_⟩
  ·rw[eG s,Z (λq=>D (.inl q))];grind
  ·rcases d with rfl|⟨z,v,h,u,d⟩
   ·exact .inl (.inl rfl)
   grind
 have bg:∀a,fq o=some a->a<f.size:=λa d=>by have⟨_,_,_,_,j,_⟩:=K.box d;exact H.gh j
 refine⟨aA,λa d=>?_,?_,λr y Ea aN L aX a7=>⟨?_,λa d q=>?_⟩⟩
 ·rw[iy];rcases d with rfl|⟨z,v,h,u,d⟩
  ·exact H.gh s
  ·rw[al]at v;simp only[aw]at v;subst v;rcases W h u with u|rfl
   ·have:=R a (.inr ⟨_,n,h,by grind [T.cells,iq],d⟩);have:c.size<=f.size:=w.ok.sz;omega
   grind
 ·exact K.mono λa d=>by rw[eG s,Z (O a d).1]
 ·refine L.mono λa d=>?_;have⟨_,_,_,_,j,_⟩:=L.box d;have V:a≠b:=λq=>by subst q;rw[n]at j;grind
  rw[eG s,Z V]
  grind
 grind
section
variable {P:aj}{cx:Ctx}{tb:io}{D:Nat}
def afS{c:ak}{a:mN}{b:List T}{d:H}{l:ah Oper}{j:aa Tmp}{k:List Oper}{n m:iM}{i:jE}(o:a.Ok P cx c)(ht:tb.h c=some a)(p:a.pre b d)
 (r:∀g f,a.post b d g f->XK (some (g,f)) cx (tz P cx tb) D l j k n m i):XK (hl P cx tb c b d) cx (tz P cx tb) D l j k n m i:=by
 have⟨g,f,e,q⟩:=Il ht o p;rw[e];grind
def ab2{d:ak}{b:mN}{c:List T}{a:H}{q:ah Oper}{j:List (Nat×Nat)}{k:aa Tmp}{p:Op}{n:List Oper}{m:Nat}{o:List (Nat×Nat)}{l:List (Nat×H×H)}{s r:iM}{i:jE}(t:b.Ok P cx d)(ht:tb.h d=some b)(u:b.pre c a)
 (w:∀g f,b.post c a g f->VN (some (g,f)) cx (tz P cx tb) D q j k p n m o l s r a i):VN (hl P cx tb d c a) cx (tz P cx tb) D q j k p n m o l s r a i:=by
 have⟨g,f,e,v⟩:=Il ht t u;rw[e];grind
def hlB{c:ak}{d:mN}(m:d.Ok P cx c)(n:∀b a g f,d.post b a g f->f=a/\J7 g):∃k:List T->H->Bool,∀{tb:io},tb.h c=some d->∀b a,d.pre b a->hl P cx tb c b a=some (.ez (k b a),a):=by
 let i:io:=⟨λ_=>none,λ_=>some d⟩
 refine⟨λb a=>match hl P cx i c b a with|some (.ez j,_)=>j|_=>false,λ{tb} ht b a o=>?_⟩;have l:hl P cx tb c b a=hl P cx i c b a:=by unfold hl;rw[ht]
 have⟨g,f,e,p⟩:=Il (tb:=i) rfl m o;obtain⟨rfl,j,rfl⟩:=n _ _ _ _ p;rw[l]
 grind
def hlI{c:ak}{d:mN}(m:d.Ok P cx c)(n:∀b a g f,d.post b a g f->f=a/\Ik g):∃k:List T->H->Int,∀{tb:io},tb.h c=some d->∀b a,d.pre b a->hl P cx tb c b a=some (.int .i64 (k b a),a):=by
 let i:io:=⟨λ_=>none,λ_=>some d⟩
 refine⟨λb a=>match hl P cx i c b a with|some (.int _ j,_)=>j|_=>0,λ{tb} ht b a o=>?_⟩;have l:hl P cx tb c b a=hl P cx i c b a:=by unfold hl;rw[ht]
 have⟨g,f,e,p⟩:=Il (tb:=i) rfl m o;obtain⟨rfl,j,rfl⟩:=n _ _ _ _ p;rw[l]
 grind
end
def mX(b a:H):H:=⟨a.size,if a.low<b.low then a.low else b.low,a.ir⟩
def iB(c b:H)(a:Nat):(mX c b).get a=b.get a:=H.ux b _ a
@[simp]def wI (b a:H):(mX b a).size=a.size:=id rfl
def iQ.out{c:Nat}{b:H}(a:iQ c b)(h:H):iQ c (mX h b):=⟨a.hp,by have:=a.low;unfold mX;simp only;split<;>omega,a.sz⟩
def Step.out{c:Nat}{h a:H}(b:Step c (TI.hr h) a):Step c h (mX h a):=b.hr.OJ (iB h a) rfl ⟨(b.ok.out h).hp,(b.ok.out h).low,ay _⟩
def Gr.out{a:H}{d:T}{c:Nat}{b:List T}(g:Gr a d c b)(h:H):Gr (mX h a) d c b:=g.mono λf _=>iB h a f
def km(ι:Type)(pre:ι->List T->H->Prop)(post:ι->List T->H->T->H->Prop):mN:=⟨λa b=>∃c,pre c a b,λa b f d=>∀c,pre c a b->post c a b f d⟩
section
variable {P:aj}{cx:Ctx}{D:Nat}{ι:Type}{pre:ι->List T->H->Prop}{post:ι->List T->H->T->H->Prop}
def kh{tb:io}(Q:P.follows .mixedOrders=true)(j7:jT P cx){t:ak}{d:Func}{r:DL}(k:G4 P cx t d D r)(l:List T->H->Nat)(R:∀c p a,pre c p a->p.length<=d.ntmps)
 (ab:∀c b a,pre c b a->∀E,oN E 0 b->W (kq cx (tz P cx tb) (l b a) D r (d.body.getD .skip) ⟨E,.nil⟩ (hr a)) (B1 cx D d.results.toList λn L=>post c b a (kI n) (mX a L))):(km ι pre post).Ok P cx t:=by
 intro b a ⟨al,S⟩;have z:∀c,pre c b a->∃i h,vV cx (tz P cx tb) (l b a) d D true b a=some (i,h)/\post c b a i h:=by
  intro c j;have⟨A,Z,_,N⟩:=oG D d.ntmps 0 b (R c b a j);have⟨x,e,u,g,ae,n,U,m⟩:=GT (ab c b a j A N);have g:=tv _ k.dr _ _ _ g;have⟨J,f⟩:=Co k.ok;rw[f]at g;refine⟨_,_,?_,m⟩;unfold vV;rw[f];obtain⟨o,y,q⟩:=a;simp only;rw[Z,fw];have g:ll cx (tz P cx tb) (l b ⟨o,y,q⟩) D J ⟨A,.nil⟩ ⟨o,o,q⟩=some (x,e,u):=g;rw[g,fw,nC];have V:=qH U;have O:=yK y (kI n) u;rcases ae with rfl|rfl<;>(simp only;rw[V,fw];exact O)
 have⟨i,h,v,_⟩:=z al S;refine⟨i,h,λc j=>?_,λI w an K s M=>rM (F:=⟨d,D,true,none⟩) Q j7 k.at_ k.ok _ (GC P cx tb) (l b a) b a i h v I w an K s M⟩;have⟨av,ap,f,m⟩:=z c j;rw[v]at f;simp only[aw,aF]at f;rw[f.1,f.2];exact m
def jB{tb:io}{f:ak}{d:List T}{g:H}{m:ah Oper}{j:aa Tmp}{l:List Oper}{o n:iM}{i:jE}(p:(km ι pre post).Ok P cx f)(ht:tb.h f=some (km ι pre post))(b:ι)(k:pre b d g)
 (r:∀c a,post b d g c a->XK (some (c,a)) cx (tz P cx tb) D m j l o n i):XK (hl P cx tb f d g) cx (tz P cx tb) D m j l o n i:=
 afS p ht ⟨b,k⟩ λc a q=>r c a (q b k)
def mf{tb:io}{g:ak}{f:List T}{a:H}{r:ah Oper}{j:List (Nat×Nat)}{k:aa Tmp}{q:Op}{o:List Oper}{n:Nat}{p:List (Nat×Nat)}{l:List (Nat×H×H)}{t s:iM}{i:jE}(u:(km ι pre post).Ok P cx g)(ht:tb.h g=some (km ι pre post))(c:ι)(m:pre c f a)
 (w:∀d b,post c f a d b->VN (some (d,b)) cx (tz P cx tb) D r j k q o n p l t s a i):VN (hl P cx tb g f a) cx (tz P cx tb) D r j k q o n p l t s a i:=
 ab2 u ht ⟨c,m⟩ λd b v=>w d b (v c m)
def z9(g:ι->Nat){f:ak}(step:∀c,(km ι (λa d b=>pre a d b/\g a<c) post).Ok P cx f->(km ι (λa d b=>pre a d b/\g a<c+1) post).Ok P cx f)(c:Nat):(km ι (λa d b=>pre a d b/\g a<c) post).Ok P cx f:=by
 induction c with
 |zero=>intro h b ⟨a,_,i⟩;omega
 |succ c j=>simp_all
end
def Eq{d j q:Nat}{n:Bool}{c:H}{l cells':List T}(w:iQ 0 c)(y:∀b,Fp c d b->b<c.size)(g:c.get d=some ⟨j,0,q,n,false,[.eZ l]⟩)(t:∀a∈cells',a∈l\/fq a=none\/∃p∈l,fq a=fq p):
 ∀h,h=(⟨j,0,q+1,n,false,[.eZ cells']⟩:jK)->Step d c (fJ c d h)/\(∀b,Fp (fJ c d h) d b->b<(fJ c d h).size)/\(fJ c d h).get d=some h/\∀a i m,Gr c a i m->i≠j->Gr (fJ c d h) a i m:=by
 rintro h rfl;have u:∀a∈cells',∀b,fq a=some b->Fp c d b:=λa o b f=>by
  rcases t a o with k|k|⟨p,A,k⟩
  ·exact .inr ⟨_,g,a,by grind [T.cells,iq],f⟩
  ·rw[k]at f;grind
  ·exact .inr ⟨_,g,p,by grind [T.cells,iq],by rw[<-k];exact f⟩
 have x:=Step.put w g ⟨j,0,q+1,n,false,[.eZ cells']⟩ (λa o b f=> .inl (u a (by grind [T.cells,iq]) b f));refine⟨x,λb f=>?_,by rw[eG g,au rfl],λa i m r z=>r.mono λb s=>?_⟩
 ·rw[iy];rcases f with rfl|⟨D,v,a,o,f⟩
  ·exact H.gh g
  ·rw[eG g,au rfl]at v
   grind [aw,T.cells,iq]
 ·have⟨_,_,_,_,f,_⟩:=r.box s;rw[eG g,Z (λk=>by subst k;rw[g]at f;grind)]
def Fld(c:H)(d:Nat)(a:T×aa (Nat×List T)):Prop:=match a.2 with
 |none=>fq a.1=none
 |some b=>Gr c a.1 b.1 b.2/\b.1≠d
structure oJ(h:H)(w szw ver:Nat)(F:List (T×aa (Nat×List T))):Prop where
 ok:iQ 0 h
 get:h.get w=some ⟨szw,0,ver,true,false,[.eZ (F.map (·.1))]⟩
 Xn:∀f∈F,Fld h szw f
 Zw:∀(j k:Nat),j≠k->∀a b,F[j]? =some a->F[k]? =some b->∀c,fq a.1=some c->fq b.1≠some c
def oJ.lt{a:H}{b f g:Nat}{c:List (T×aa (Nat×List T))}(d:oJ a b f g c):b<a.size:=H.gh d.get
def oJ.fp{b:H}{h m n:Nat}{i:List (T×aa (Nat×List T))}(d:oJ b h m n i):∀a,Fp b h a->a<b.size:=by
 rintro a (rfl|⟨p,c,o,g,f⟩)
 ·exact d.lt
 rw[d.get]at c;simp only[aw]at c;subst c;simp only[iq,bD,cB,bG,T.cells]at g;obtain⟨j,k,rfl⟩:=List.mem_map.1 g;have:=d.Xn j k;unfold Fld at this;split at this
 ·rw[this]at f;grind
 ·have⟨_,_,_,_,l,_⟩:=this.1.box f;exact H.gh l
def oJ.gr{c:H}{l j k:Nat}{a:List (T×aa (Nat×List T))}(i:oJ c l j k a){f:T}{d:Nat}{b:List T}(h:Nat)(g:a[h]? =some (f,some (d,b))):Gr c f d b:=(i.Xn _ (aC g)).1
def oJ.Ew{c:H}{d i j:Nat}{a:List (T×aa (Nat×List T))}(h:oJ c d i j a){f:T×aa (Nat×List T)}(k:f∈a){b:Nat}(g:fq f.1=some b):Fp c d b:= .inr ⟨_,h.get,f.1,by simp only[iq,bD,cB,bG,T.cells];grind,g⟩
def oJ.step{d f:H}{c j k:Nat}{g:List (T×aa (Nat×List T))}(b:oJ d c j k g)(n:iQ 0 f)(i:∀a,Fp d c a->f.get a=d.get a):oJ f c j k g:=by
 refine⟨n,by rw[i c (.inl rfl)];exact b.get,λl h=>?_,b.Zw⟩;have:=b.Xn l h;unfold Fld at this|-;split at this
 ·omega
 ·exact⟨this.1.mono λa m=>i a (b.Ew h m),this.2⟩
theorem oJ.cons{c:H}{w d f:Nat}{b:List (T×aa (Nat×List T))}(a:oJ c w d f b)(g:jK):oJ (c.cons g) w d f b:=a.step (a.ok.cons g) λh i=>by rw[fk,Z (by have:=a.fp h i;omega)]
def oJ.qJ{b:H}{c h i:Nat}{d:List (T×aa (Nat×List T))}(f:oJ b c h i d){a:Nat}{m:jK}(g:Lb c b a m)(j:jK):oJ (fJ b a j) c h i d:=f.step (f.ok.put a j) λn k=>by rw[eG g.get,Z (λl=>g.nf (by rw[<-l];exact k))]
def oJ.ad8{o b:H}{a d n m:Nat}{f:List (T×aa (Nat×List T))}(p:oJ o a d n f)(i:T×aa (Nat×List T)){j:jK}(x:j=⟨d,0,n+1,true,false,[.eZ ((f.set m i).map (·.1))]⟩)(t:b.get a=o.get a)(z:iQ 0 b)
 (A:Fld (fJ b a j) d i) (D:∀(c:Nat) h,c≠m->f[c]? =some h->Fld (fJ b a j) d h/\(∀g,fq i.1=some g->fq h.1≠some g)):oJ (fJ b a j) a d (n+1) (f.set m i):=by
 have w:=t.trans p.get;refine⟨z.put _ _,by rw[eG w,au rfl,x],λh s=>?_,λc y v q r k l g=>?_⟩
 ·have⟨c,u⟩:=cR s;rw[cw]at u
  grind
 ·rw[cw]at k l;split at k
  ·grind
  ·split at l
   ·grind
   ·exact p.Zw c y v q r k l g
def oJ.app{k f:H}{d m o l:Nat}{b:List (T×aa (Nat×List T))}(a:oJ k d m o b){t u:T}{K p:List T}(h:Nat)(r:b[h]? =some (t,some (l,K)))(w:Xt k t l p u f):
 f.get d=some ⟨m,0,o,true,false,[.eZ (b.map (·.1))]⟩/\gU k f d=true/\∀i,i=(⟨m,0,o+1,true,false,[.eZ ((b.set h (u,some (l,p))).map (·.1))]⟩:jK)->Step d k (fJ f d i)/\oJ (fJ f d i) d m (o+1) (b.set h (u,some (l,p))):=by
 have q:=a.Xn _ (aC r);have O:(b.map (·.1))[h]? =some t:=by rw[aR,r];rfl
 have⟨s,Z⟩:=zu a.ok a.fp a.get O q.2 q.1 w;refine⟨s.trans a.get,il s,λi A=>?_⟩;have⟨ab,j,M,U⟩:=Z i (by rw[A,aW]);have V:iQ 0 f:=by obtain⟨_,_,_,D⟩:=w;exact⟨D.hp,D.low,ay _⟩
 refine⟨ab,a.ad8 _ A s V ⟨M,q.2⟩ λS j R y=>?_⟩;have z:=aC y;have g:=a.Xn j z;have Q:j.1∈b.map (·.1):=List.mem_map_of_mem z;obtain⟨v,L⟩:=j;cases L with
 |none=>exact⟨g,λc _ W=>by rw[show fq v=none from g]at W;grind⟩
 |some E=>
  have⟨I,J⟩:=U v E.1 E.2 Q g.1 (λF N=>a.Zw h S (bE R) _ _ r y F N) g.2;exact⟨⟨I,g.2⟩,J⟩
def oJ.ahM{f:H}{c l m:Nat}{b:List (T×aa (Nat×List T))}(a:oJ f c l m b)(h:Nat){v':T}(j:fq v'=none)(x:∃p,b[h]? =some (p,none)):
 ∀d,d=(⟨l,0,m+1,true,false,[.eZ ((b.set h (v',none)).map (·.1))]⟩:jK)->Step c f (fJ f c d)/\oJ (fJ f c d) c l (m+1) (b.set h (v',none)):=by
 intro d o;obtain⟨u,i,w,t⟩:=Eq a.ok a.fp a.get (cells':=(b.set h (v',none)).map (·.1)) (λp n=>by
  grind) d o
 refine⟨u,a.ad8 _ o rfl a.ok j λz i y s=>?_⟩;have n:=aC s;have g:=a.Xn i n;obtain⟨v,r⟩:=i;cases r with
 |none=>exact⟨g,λq k=>by rw[show fq v'=none from j]at k;grind⟩
 |some A=>exact⟨⟨t _ _ _ g.1 g.2,g.2⟩,λq k=>by rw[show fq v'=none from j]at k;grind⟩
def oJ.elem{l:H}{u M N c h j q:Nat}{k:Bool}{r:List T}{d:List (T×aa (Nat×List T))}(a:oJ l u M N d){o:T}{s:List T}(i:Nat)(D:d[i]? =some (o,some (c,s)))(m:fq o=some h)(b:l.get h=some ⟨c,j,q,k,false,r⟩)(g:Nat)(x:T):
 Step u l (fJ l h ⟨c,j,q+1,k,false,r.set g x⟩)/\oJ (fJ l h ⟨c,j,q+1,k,false,r.set g x⟩) u M N (d.set i (o,some (c,s.set g x))):=by
 have y:=a.Xn _ (aC D);have J:h≠u:=λL=>by subst L;rw[a.get]at b;simp at b;exact y.2 b.1.symm
 have aN:=Step.aee a.ok b (a.Ew (aC D) m) J ⟨c,j,q+1,k,false,r.set g x⟩;have aA:(d.set i (o,some (c,s.set g x))).map (·.1)=d.map (·.1):=by
  rw[aW];simp only;apply cW;intro n;rw[cw]
  grind
 refine⟨aN,a.ok.put _ _,by rw[eG b,Z (bE J),aA];exact a.get,λI av=>?_,λn K aE O v ae z=>?_⟩
 ·obtain⟨n,f⟩:=cR av;rw[cw]at f;split at f
  ·split at f
   ·simp only[aw]at f;subst f;refine⟨?_,y.2⟩;rcases y.1 with⟨rfl,t⟩|⟨R,aX,a8,a6,bg,rfl,t,ab⟩
    ·simp at m
    ·simp only[Di,aw]at m;subst m;rw[b]at t;simp only[aw,jK.mk.injEq]at t;obtain⟨_,rfl,rfl,rfl,_,rfl⟩:=t;exact .inr ⟨R,j,q+1,k,r.set g x,by rw[dg],by rw[eG b,au rfl],by rw[dg,List.take_set,ab]⟩
   grind
  ·rename_i L;have A:=a.Xn I (aC f);obtain⟨a7,W⟩:=I;cases W with
   |none=>exact A
   |some p=>exact⟨A.1.mono λv z=>by rw[eG b,Z (λe=>by subst e;exact a.Zw i n B _ _ D f v m z)],A.2⟩
 ·have:∀(E:Nat) (w:T×aa (Nat×List T)),(d.set i (o,some (c,s.set g x)))[E]? =some w->∃F,d[E]? =some F/\F.1=w.1:=by
   intro E w ap;rw[cw]at ap
   grind
  obtain⟨Q,al,U⟩:=this n O ae;obtain⟨S,an,V⟩:=this K v z;rw[<-U,<-V];exact a.Zw n K aE Q S al an
def Gr.fz{b:H}{f:T}{k:Nat}{h:Type}{a:h->T}{c:List h}(d:Gr b f k (c.map a))(j:∀g,Ae b 11 (a g)=some (a g)):TI.fz b f=some (sl (c.map a)):=by
 have:=d.rZ j;rcases d with⟨rfl,i⟩|⟨l,m,q,n,r,rfl,o,p⟩
 ·rw[i];rfl
 simp_all
def Xt.out{h b:H}{d f:T}{c:Nat}{a:List T}(g:Xt (TI.hr h) d c a f b):Xt h d c a f (mX h b):=by
 obtain⟨a1,a2,a3,a4⟩:=g;exact⟨a1.out h,λi j k=>by rw[iB,a2 i j k,iU],a3,(a4.out h).hp,(a4.out h).low,a4.sz⟩
def Gr.m9{cx:Ctx}{b:H}{j:T}{a:Nat}{k:Type}{f:k->T}{h:List k}(s:Gr b j a (h.map f))(o:iQ 0 b){i l:af}{p d:Ty}(m:cx.ty i=some p)(n:p.u= .slice l)(t:cx.ty l=some d)(y:d.size=a)(v:1<=d.bytes)(w:∀x,NZ (f x)=a)(x:k)(z:(h.length+1)*d.bytes<=70368744177664):
 ∃g c,jx cx (b.cons ⟨a,0,0,true,false,[f x]⟩) i i j (.arr b.size 0 0 1 false)=some (.val g c)/\Xt b j a ((h++[x]).map f) g c:=by
 have q:=(Xt.refl s o).cons ⟨a,0,0,true,false,[f x]⟩;have⟨g,c,e,r⟩:=Gr.app (cx:=cx) q.1 (o.cons _) (x:= .arr b.size 0 0 1 false) (xs:=[f x]) m n t m n y v (by rw[iR];simp) (by simpa using show(f x).cells.length=a from w x) G (by grind);exact⟨g,c,e,by rw[List.map_append];exact q.trans r.xt⟩
end
def oJ.start{h:H}{w szw ver:Nat}{F:List (T×aa (Nat×List T))}(o:iQ 0 h)(g:h.get w=some ⟨szw,0,ver,true,false,[.eZ (F.map (·.1))]⟩)
 (f:∀a∈F,(a.2=none/\fq a.1=none)\/(a.1= .V [] false/\∃e,a.2=some (e,[])/\e≠szw)):oJ h w szw ver F/\∀c,Fp h w c->c=w:=by
 have i:∀a∈F,fq a.1=none:=λa h=>by
  rcases f a h with k|k
  ·exact k.2
  ·rw[k.1];rfl
 refine⟨⟨o,g,λa h=>?_,λs k _ l c m r q b=>by rw[i l (aC m)]at b;simp at b⟩,λc b=>?_⟩
 ·obtain⟨p,t⟩:=a;rcases f _ h with⟨rfl,k⟩|⟨rfl,e,rfl,k⟩
  ·exact k
  ·exact⟨Gr.nil _ _,k⟩
 ·rcases b with rfl|⟨u,d,p,j,b⟩
  ·rfl
  ·rw[g]at d;simp only[aw]at d;subst d;simp only[iq,bD,cB,bG,T.cells]at j;obtain⟨a,n,rfl⟩:=List.mem_map.1 j;rw[i a n]at b;simp at b
def oJ.other{b e:H}{d l m g:Nat}{i:List (T×aa (Nat×List T))}(h:oJ b d l m i)(j:∀a,Fp b d a->¬Fp b g a)(f:Step g b e):oJ e d l m i/\∀a,Fp e d a->¬Fp e g a:=by
 have k:∀a,Fp b d a->e.get a=b.get a:=λa c=>f.get a (h.fp a c) (j a c);refine⟨h.step ⟨f.ok.hp,f.ok.low,ay _⟩ k,λa c n=>?_⟩;rw[jJ (k d (.inl rfl))]at c;rcases f.fp a n with q|q
 ·exact j a c q
 ·have:=h.fp a c;omega
structure Sm(b:Nat)(h h':H):Prop where
 ok:iQ 0 h'
 size:h'.size=h.size
 get:∀c,c≠b->h'.get c=h.get c
def Sm.refl{b:Nat}{a:H}(c:iQ 0 a):Sm b a a:=⟨c,rfl,λ_ _=>rfl⟩
theorem Sm.put{a:Nat}{e b:H}(d:Sm a e b){x:jK}(h:b.get a=some x)(g:jK):Sm a e (fJ b a g):=⟨d.ok.put a g,by rw[iy];exact d.size,λc f=>by rw[eG h,Z f];exact d.get c f⟩
def Sm.iP{d:Nat}{h e:H}{a g ver:Nat}{b:List (T×aa (Nat×List T))}(f:Sm d h e)(k:oJ h a g ver b)(i:¬Fp h a d):oJ e a g ver b:=k.step f.ok λc j=>f.get c λl=>i (by rw[<-l];exact j)
def jw.ft{b c:H}{Vq V':Nat->Prop}{d:Nat}{e f:List T}(g:jw (FT b Vq d) e f)(h:∀a,Vq a->V' a/\c.get a=b.get a):jw (FT c V' d) e f:=g.imp λ_ _ i=>i.mono h
def Gr.LD{a:H}{Vq:Nat->Prop}{g:T}{l d:Nat}{b c:List T}(f:Gr a g l b)(h:d<=11)(e:jw (FT a Vq d) b c):TI.fz a g=some (sl c):=by
 have j:iH (Ae a 11) b=some c:=tc (e.imp λ_ _ k=>(k.deep h).Ae);have i:=f.j1;rcases f with⟨rfl,rfl⟩|⟨m,n,r,o,s,rfl,p,q⟩
 ·cases e;rfl
 ·rw[xE,i,fw,j];rfl
section
def jw.left{a f:Type}{b:a->f->Prop}{d:List a}{j:List f}(h:jw b d j){e:a}(c:e∈d):∃k,b e k:=by
 induction h with
 |nil=>simp at c
 |cons g _ i=>
  rcases List.mem_cons.1 c with rfl|q
  ·exact⟨_,g⟩
  ·exact i q
def FT.fzN{a:H}{z:Nat->Prop}{h:Nat}(I:∀c,z c->h<=c):∀{b:Nat} {j y:T},FT a z b j y->freeze a h b j=freeze a 0 b j:=by
 intro b;induction b with
 |zero=>intro j y v;exact v.elim
 |succ b E=>
  intro j y v;rcases v with⟨A,D,rfl⟩|⟨c,l,i,g,s,n,r,rfl,K,f,t,rfl⟩|⟨p,Q,rfl,t,rfl⟩
  ·rw[vQ a h b j A D,vQ a 0 b j A D]
  ·have u:iH (freeze a h b) n=iH (freeze a 0 b) n:=pq λk w=>by
    have⟨O,x⟩:=t.left w;exact E x
   have F:∀q,freeze a q (b+1) (.arr c l i g s)=iS (Nat.ble q c) (J (a.get c) λk=>jK.casesOn k λ_ m _ exact o e=>
    iS (Nat.beq m l) (Bool.casesOn o (J (J (kZ i e) λd=>takeN g d) λn=>J (iH (freeze a q b) n) λr=>
     List.casesOn r (List.casesOn e (Bool.casesOn exact (some .iX) (some (.V [] false))) λ_ _=>some .iX) λ_ _=>some (.V r s)) none)):=λq=>rfl
   rw[F,F];have M:a.j1 (.arr c l i g s)=J (a.get c) λk=>jK.casesOn k λ_ m _ _ o e=>iS (Nat.beq m l) (Bool.casesOn o (J (kZ i e) λd=>takeN g d) none):=rfl;rw[M]at f;rw[show Nat.ble h c=true from cr (I c K),show Nat.ble 0 c=true from cr (ay c)];show(J (a.get c) _)=(J (a.get c) _);cases L:a.get c with
   |none=>rfl
   |some k=>
    rw[L]at f;obtain⟨S,m,U,R,o,e⟩:=k;simp only[fw]at f|-;cases N:Nat.beq m l with
    |false=>rfl
    |true=>
     rw[N]at f;cases o with
     |true=>rfl
     |false=>
      have f:(J (kZ i e) λd=>takeN g d)=some n:=f;show(J (J (kZ i e) λd=>takeN g d) _)=(J (J (kZ i e) λd=>takeN g d) _);rw[f,fw,fw,u]
  ·have u:iH (freeze a h b) p=iH (freeze a 0 b) p:=pq λk w=>by
    have⟨O,x⟩:=t.left w;exact E x
   show(J (iH (freeze a h b) p) _)=(J (iH (freeze a 0 b) p) _);rw[u]
def FT.top{b:H}{Vq:Nat->Prop}{h d:Nat}(K:d<=11)(q:∀a,Vq a->h<=a){c f:List T}(r:jw (FT b Vq d) c f):∃i,jX b h (.eZ c)=some i/\cn i= .eZ f:=by
 have u:iH (jA b h) c=iH (jA b 0) c:=pq λA x=>by
  have⟨L,s⟩:=r.left x;have l:=(s.deep (show d<=12 by omega)).fzN q;rcases(s.deep (show d<=12 by omega))with⟨m,n,rfl⟩|⟨a,j,p,o,k,E,F,rfl,w,I,v,rfl⟩|⟨c,f,rfl,v,rfl⟩
  ·cases A<;>first|exact l|(simp[kT]at m)
  ·have t:∀e,jA b e (.arr a j p o k)=(Bool.casesOn (Nat.ble e a) (some (.arr a j p o k)) (freeze b e 12 (.arr a j p o k)):aa T):=λe=>rfl;rw[t,t,show Nat.ble h a=true from cr (q a w),show Nat.ble 0 a=true from cr (ay a),l]
  ·exact l
 have g:rZ b (.eZ c)=some (.eZ f):=by
  rw[Pi,tc (r.imp λD a e=>(e.deep (show d<=12 by omega)).fz)];rfl
 have g:(J (J (iH (jA b 0) c) λy=>some (T.eZ y)) λz=>some (cn z))=some (.eZ f):=g;rw[<-u]at g;have⟨i,m,n⟩:=eg.1 g;simp only[aw]at n;exact⟨i,m,n⟩
def Lb.mE{b:Nat}{c d:H}{a:Nat}{f:jK}(e:Lb b c a f)(h:d.get b=c.get b)(g:d.get a=c.get a):Lb b d a f:=⟨by rw[g];exact e.get,by rw[jJ h];exact e.nf⟩
def xH(a b:H):H:=⟨a.size,(mX a b).low,(mX a b).ir.drop ((mX a b).size-a.size)⟩
def Ci{h a:H}(d:Hp a)(e:h.size<=a.size){b:Nat}(c:b<h.size):(xH h a).get b=a.get b:=
 (LA (h:=mX h a) (by unfold Hp at*;exact d) e c).trans (iB h a b)
def iQ.cut{a b:H}(c:iQ 0 a)(d:Hp b)(e:a.size<=b.size):iQ 0 (xH a b):=
 ⟨by unfold Hp at*;unfold xH mX;simp;omega,by have:=c.low;unfold xH mX;simp only;split<;>omega,ay _⟩
def Bc(a:H)(f:T)(b:H)(post:T->H->Prop):Prop:=
 Hp b/\a.size<=b.size/\(∀c e,c<a.size->b.get c=some e->b.get c=a.get c\/∀g∈iq e.gW,sa a.size g)/\∃d,jX b a.size f=some d/\post (cn d) (xH a b)
section
variable {P:aj}{cx:Ctx}{D:Nat}{ι:Type}{pre:ι->List T->H->Prop}{post:ι->List T->H->T->H->Prop}
def ue{tb:io}(ab:P.follows .mixedOrders=true)(j7:jT P cx){m:ak}{g:Func}{t:DL}(j:G4 P cx m g D t)(k:List T->H->Nat)(ae:∀d q a,pre d q a->q.length<=g.ntmps)
 (aE:∀d b a,pre d b a->∀I,oN I 0 b->W (kq cx (tz P cx tb) (k b a) D t (g.body.getD .skip) ⟨I,.nil⟩ (hr a)) (B1 cx D g.results.toList λo Q=>Bc a (kI o) Q (post d b a))):(km ι pre post).Ok P cx m:=by
 intro b a ⟨aX,al⟩;have A:∀d,pre d b a->∃h c,vV cx (tz P cx tb) (k b a) g D true b a=some (h,mX a c)/\Bc a h c (post d b a):=by
  intro d i;have⟨E,aA,_,S⟩:=oG D g.ntmps 0 b (ae d b a i);have⟨x,N,c,e,aN,o,ap,an⟩:=GT (aE d b a i E S);have e:=tv _ j.dr _ _ _ e;have⟨L,f⟩:=Co j.ok;rw[f]at e;refine⟨_,c,?_,an⟩;unfold vV;rw[f];obtain⟨p,z,r⟩:=a;simp only;rw[aA,fw];have e:ll cx (tz P cx tb) (k b ⟨p,z,r⟩) D L ⟨E,.nil⟩ ⟨p,p,r⟩=some (x,N,c):=e;rw[e,fw,nC];have av:=qH ap;have Z:=yK z (kI o) c;rcases aN with rfl|rfl<;>(simp only;rw[av,fw];exact Z)
 have⟨h,c,u,a6,a7,a8,bg,l,bn⟩:=A aX al;have U:sg P cx ⟨m,b,a,h,mX a c⟩:=λK w bi M s R=>rM (F:=⟨g,D,true,none⟩) ab j7 j.at_ j.ok _ (GC P cx tb) (k b a) b a h (mX a c) u K w bi M s R;have V:=GE U (by unfold Hp at*;exact a6) a7 (λJ y f v=>by rw[iB]at v|-;exact a8 J y f v) (by rw[wn (iB a c)];exact l);refine⟨cn bg,xH a c,λd i=>?_,V⟩;have⟨r2,n,f,p1,p2,p3,bp,p4,p5⟩:=A d i;rw[u]at f;simp only[aw,aF]at f;obtain⟨rfl,e⟩:=f;have O:jX c a.size h=jX n a.size h:=by rw[<-wn (iB a c),e,wn (iB a n)]
 rw[O,p4]at l;simp only[aw]at l;subst l;have:xH a c=xH a n:=by unfold xH;rw[e]
 rw[this];exact p5
