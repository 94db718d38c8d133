/- TiObj -/
import Derived.Test.YtbappgeamhmmbaaGreatDoorA8
set_option linter.all false
namespace Go.TI
noncomputable section
section
section
variable {cx:Ctx}{G:Nat}{e:Env}
@[simp]def Vs (a:ak) (b:Int):mF (.int a b)=some (.int a b):=id rfl
@[simp]def T7 (a:Bool):mF (.bool a)=some (.bool a):=id rfl
@[simp]def T5:mF (.slice none 0 0)=some (.Y [] false):=id rfl
@[simp]def T6:mF (.pointer none)=some .jQ:=id rfl
@[simp]def Vr (a:ByteArray):mF (.string a)=some (.str (a.data.toList.map UInt8.toNat)):=Nu (cx:=⟨λ_=>none,λ_=>none,λ_=>none⟩) (G:=0) (e:=⟨.nil,.nil⟩) a
@[simp]def aad (a:List am):fq cx G e (.const (.agg a.toArray))=M (fG mF a) λb=>some (.agg b):=id rfl
end
@[simp]theorem PB (a:List T):dM (sl a)=none:=by cases a<;>rfl
@[simp]def oT1 (a:T):iz [a]=a:=id rfl
@[simp]def oT2 (a b:T) (c:List T):iz (a::b::c)= .tuple (a::b::c):=id rfl
@[simp]def oT0:iz []= .tuple []:=id rfl
@[simp]def afG (a:H):(hr a).low=a.size:=id rfl
@[simp]def UY (a:H) (d f:iI) (b:Nat) (c:¬b=a.size):em (a.cons d) (a.cons f) b=true:=by
 unfold em;rw[dO,dO,ao c,ao c];cases a.get b<;>simp
def eQ{b c:H}{a:Nat}(d:c.get a=b.get a):em b c a=true:=by
 unfold em;rw[d];cases b.get a<;>simp
def Fp(d:H)(b a:Nat):Prop:=a=b\/∃c,d.get b=some c/\∃f∈eY c.eg,dM f=some a
structure Step(w:Nat)(h h':H):Prop where
 ok:gH h.size h'
 get:∀b,b<h.size->¬Fp h w b->h'.get b=h.get b
 fp:∀b,Fp h' w b->Fp h w b\/h.size<=b
theorem iL{c d:H}{a:Nat}(f:d.get a=c.get a)(b:Nat):Fp d a b=Fp c a b:=by unfold Fp;rw[f]
def Step.refl{d:Nat}{a:H}(b:gH 0 a):Step d a a:=⟨⟨b.hp,b.low,au _⟩,λ_ _ _=>rfl,λ_ c=> .inl c⟩
def Step.trans{g:Nat}{h d i:H}(a:Step g h d)(c:Step g d i):Step g h i:=by
 refine⟨⟨c.ok.hp,c.ok.low,aO a.ok.sz c.ok.sz⟩,λb f j=>?_,λb f=>?_⟩
 ·have d:=a.get b f j;have:=a.ok.sz;rw[c.get b B (λk=>(a.fp b k).elim j λk=>absurd k B),d]
 ·rcases c.fp b f with k|k
  ·exact a.fp b k
  ·exact .inr (aO a.ok.sz k)
structure Lb(w:Nat)(h:H)(b:Nat)(x:iI):Prop where
 get:h.get b=some x
 nf:¬Fp h w b
def Lb.lt{d:Nat}{b:H}{a:Nat}{f:iI}(c:Lb d b a f):a<b.size:=H.ej c.get
def Lb.ne{a:Nat}{c:H}{b:Nat}{g:iI}(f:Lb a c b g):b≠a:=λd=>f.nf (.inl d)
def Lb.step{d:Nat}{f g:H}{b:Nat}{i:iI}(a:Lb d f b i)(h:Step d f g):Lb d g b i:=
 ⟨by rw[h.get b a.lt a.nf];exact a.get,λc=>(h.fp b c).elim a.nf λc=>absurd c (by have:=a.lt;omega)⟩
theorem Step.cons{w:Nat}{a:H}(c:gH 0 a)(i:w<a.size)(b:iI):Step w a (a.cons b):=by
 have f:(a.cons b).get w=a.get w:=by rw[dO,ao B]
 exact⟨⟨(c.cons b).hp,(c.cons b).low,J⟩,λd h _=>by rw[dO,ao B],λd g=>by rw[iL f]at g;grind⟩
def Lb.new{b:Nat}{a:H}(j:b<a.size)(h:∀d,Fp a b d->d<a.size)(c:iI):Lb b (a.cons c) a.size c:=by
 have i:(a.cons c).get b=a.get b:=by rw[dO,ao B]
 exact⟨J,λg=>by rw[iL i]at g;have:=h _ g;omega⟩
def Step.ry{c:Nat}{b:H}(k:gH 0 b){a:Nat}{o:iI}(h:Lb c b a o)(d:iI)(g:H)(i:Step c g b)(p:g.size<=a):Step c g (dT b a d):=by
 have m:(dT b a d).get c=b.get c:=by rw[dF h.get,ao (aW h.ne)]
 refine⟨⟨(k.put a d).hp,(k.put a d).low,by rw[fI];exact i.ok.sz⟩,λf l n=>?_,λf j=>?_⟩
 ·rw[dF h.get,ao B];exact i.get f l n
 ·rw[iL m]at j;exact i.fp f j
theorem Step.put{b:Nat}{a:H}(i:gH 0 a){x:iI}(h:a.get b=some x)(d:iI)(q:∀j∈eY d.eg,∀f,dM j=some f->Fp a b f\/a.size<=f):Step b a (dT a b d):=by
 refine⟨⟨(i.put b d).hp,(i.put b d).low,by rw[fI];omega⟩,λc o k=>?_,λc g=>?_⟩
 ·rw[dF h,ao (λg=>k (.inl g))]
 ·rcases g with rfl|⟨r,l,j,p,m⟩
  ·exact .inl (.inl rfl)
  ·rw[dF h,aq rfl]at l
   grind
def Step.ZY{c:Nat}{b:H}(h:gH 0 b){a:Nat}{m:iI}(f:b.get a=some m)(j:Fp b c a)(l:a≠c)(d:iI):Step c b (dT b a d):=by
 have o:(dT b a d).get c=b.get c:=by rw[dF f,ao (aW l)]
 refine⟨⟨(h.put a d).hp,(h.put a d).low,by rw[fI];omega⟩,λi n k=>?_,λi g=>?_⟩
 ·rw[dF f,ao (λg=>k (by rw[g];exact j))]
 grind [iL]
def Step.JK{f:Nat}{g c:H}(d:Step f g c){b:H}(h:∀a,b.get a=c.get a)(m:b.size=c.size)(j:gH 0 b):Step f g b:=
 ⟨⟨j.hp,j.low,by rw[m];exact d.ok.sz⟩,λa k l=>by rw[h];exact d.get a k l,λa i=>by rw[iL (h f)]at i;exact d.fp a i⟩
def UA(b:H)(c a:Nat):Fp (hr b) c a=Fp b c a:=iL (gu b c) a
def Step.hr{f:Nat}{c d:H}(a:Step f (hr c) d):Step f c d:=
 ⟨⟨a.ok.hp,a.ok.low,a.ok.sz⟩,λb g h=>by rw[a.get b g (by rw[UA];exact h),gu],λb i=>by have:=a.fp b i;rw[UA]at this;exact this⟩
def gH.hr{b:Nat}{a:H}(c:gH b a):gH b (hr a):=⟨by rw[abg];exact c.hp,au _,c.sz⟩
def Gr(h:H)(d:T)(i:Nat)(a:List T):Prop:=
 (d= .Y [] false/\a=[])\/∃b c j g f,d= .arr b c 0 a.length false/\h.get b=some ⟨i,c,j,g,false,f⟩/\f.take a.length=a
theorem Gr.nil(a:H)(b:Nat):Gr a (.Y [] false) b []:= .inl ⟨rfl,rfl⟩
theorem Gr.fg{d:H}{a:T}{f:Nat}{b:List T}(c:Gr d a f b):a.fg=true:=by
 rcases c with⟨rfl,_⟩|⟨g,h,j,i,k,rfl,_⟩<;>rfl
theorem Gr.cells{d:H}{a:T}{f:Nat}{b:List T}(c:Gr d a f b):a.cells=[a]:=by
 rcases c with⟨rfl,_⟩|⟨g,h,j,i,k,rfl,_⟩<;>rfl
def Gr.mono{d h':H}{b:T}{f:Nat}{c:List T}(i:Gr d b f c)(l:∀a,dM b=some a->h'.get a=d.get a):Gr h' b f c:=by
 rcases i with⟨rfl,rfl⟩|⟨a,g,m,h,n,rfl,j,k⟩
 ·exact .inl ⟨rfl,rfl⟩
 ·exact .inr ⟨a,g,m,h,n,rfl,by rw[l a rfl];exact j,k⟩
def Gr.box{g:H}{c:T}{h:Nat}{d:List T}(k:Gr g c h d){b:Nat}(l:dM c=some b):∃a i f j,g.get b=some ⟨h,a,i,f,false,j⟩/\c= .arr b a 0 d.length false:=by
 rcases k with⟨rfl,_⟩|⟨m,a,i,f,j,rfl,n,o⟩
 ·simp at l
 simp_all
def Gr.ne{a:H}{f g:T}{c d:Nat}{h Kb:List T}(i:Gr a f c h)(j:Gr a g d Kb)(o:c≠d):∀b,dM f=some b->dM g≠some b:=λb k l=>by
 have⟨_,_,_,_,m,_⟩:=i.box k;have⟨_,_,_,_,n,_⟩:=j.box l;rw[m]at n;grind
def Gr.jf{b:H}{c:T}{h:Nat}{a:List T}(d:Gr b c h a):b.jf c=some a:=by
 rcases d with⟨rfl,rfl⟩|⟨j,k,m,l,i,rfl,f,g⟩
 ·rfl
 ·have hl:a.length<=i.length:=by have:=bG List.length g;rw[List.length_take]at this;omega
  rw[gh,f];simp_all
def Gr.len{cx:Ctx}{g:H}{d:T}{h:Nat}{a:List T}(f:Gr g d h a)(b:H)(c:Ty)(i:ab)(o:c.u= .slice i):Dk cx b c d=some (.val (.int .i64 a.length) b):=by
 rcases f with⟨rfl,rfl⟩|⟨j,k,p,l,q,rfl,m,n⟩
 ·simp_all
 simp_all
def Gr.IG{c:H}{j:T}{h:Nat}{f:List T}(m:Gr c j h f){te:Ty}(p:te.size=h){i:Nat}(o:i<f.length):∃a b k g d,dM j=some a/\kw c te j i=some (.val (.ptr a b i 0) c)/\c.get a=some ⟨h,b,k,g,false,d⟩/\d[i]? =some f[i]:=by
 rcases m with⟨rfl,rfl⟩|⟨a,b,k,g,d,rfl,l,n⟩
 ·grind
 ·refine⟨a,b,k,g,d,rfl,?_,l,?_⟩
  ·rw[OJ,l];simp_all
  grind
def Gr.qA{a:H}{d:T}{j:Nat}{h:Type}{f:h->T}{b:List h}(c:Gr a d j (b.map f))(p:∀g,wn a 11 (f g)=some (f g)):TI.qA a d=some (sl (b.map f)):=by
 have q:=c.jf;rcases c with⟨rfl,i⟩|⟨k,l,r,m,s,rfl,n,o⟩
 ·rw[i];rfl
 simp_all
def Gr.cut{cx:Ctx}{b:H}{i:T}{h:Nat}{a:List T}(m:Gr b i h a){ty te:Ty}{f:ab}(p:ty.u= .slice f)(ht:cx.ty f=some te)(t:te.size=h){n:Nat}(c:n<=a.length)(s:0<a.length):
 ∃j,Mn cx b ty i none (some n) none=some (.val j b)/\Gr b j h (a.take n)/\dM j=dM i:=by
 rcases m with⟨rfl,rfl⟩|⟨d,g,q,l,r,rfl,k,o⟩
 ·grind
 ·refine⟨.arr d g 0 n false,JH ty te f d g 0 a.length n false _ p ht k (by grind) c,.inr ⟨d,g,q,l,r,by rw[List.length_take,cm c],k,?_⟩,rfl⟩;rw[List.length_take,cm c,<-o,List.take_take,cm c]
def AX(c:H)(h:T)(j:Nat)(g:List T)(k:T)(d:H):Prop:=∃a f l i,k= .arr a f 0 g.length false/\d.get a=some ⟨j,f,l,i,false,g⟩/\
 (dM h=some a\/(dM h=none/\a=c.size))/\(∀b,b≠a->b<c.size->d.get b=c.get b)/\gH c.size d
def AX.gr{j:H}{l:T}{c:Nat}{a:List T}{d:T}{b:H}(f:AX j l c a d b):Gr b d c a:=by
 obtain⟨g,h,m,i,rfl,k,_⟩:=f;exact .inr ⟨g,h,m,i,a,rfl,k,aJ⟩
def AX.set{i:H}{m:T}{d b c h:Nat}{f:Bool}{a:List T}{g:H}(o:AX i m d a (.arr b c 0 a.length false) g)(k:g.get b=some ⟨d,c,h,f,false,a⟩)(l:Nat)(n:T):
 AX i m d (a.set l n) (.arr b c 0 a.length false) (dT g b ⟨d,c,h+1,f,false,a.set l n⟩):=by
 obtain⟨s,u,y,v,j,w,p,x,q⟩:=o;simp only[T.arr.injEq,true_and,and_true]at j;obtain⟨rfl,rfl⟩:=j;exact⟨b,c,h+1,f,by rw[cG],by rw[dF k,aq rfl],p,λt r hl=>by rw[dF k,ao r];grind,q.put _ _⟩
def Gr.app{cx:Ctx}{a:H}{j:T}{f:Nat}{d:List T}(C:Gr a j f d)(k:gH 0 a){p q l:ab}{w y g:Ty}(E:cx.ty p=some w)(F:w.u= .slice l)(G:cx.ty l=some g)(I:cx.ty q=some y)(K:y.u= .slice l)(t:g.size=f)(M:1<=g.bytes)
 {x:T} {xs:List T} (N:a.jf x=some xs) (v:∀e∈xs,e.cells.length=f) (U:xs≠ []) (S:(d.length+xs.length)*g.bytes<=70368744177664):
 ∃z s,iN cx a p q j x=some (.val z s)/\AX a j f (d++xs) z s:=by
 have L:iN cx a p q j x=jl (a.append g.size g.bytes j xs):=by
  unfold iN pS m7;rw[E,dS,I,dS];simp only[F,G,K,N,dS];rw[t,m8 v,il]
 rw[L,t];obtain⟨b,c,rfl⟩:∃b c,xs=b::c:=by cases xs with|nil=>grind|cons b c=>simp
 rcases C with⟨rfl,rfl⟩|⟨h,i,r,R,Q,rfl,o,O⟩
 ·refine⟨_,a.cons ⟨f,0,0,false,false,b::c⟩,?_,a.size,0,0,false,rfl,J,.inr ⟨rfl,rfl⟩,λA m _=>by rw[dO,ao m],(k.cons _).hp,(k.cons _).low,J⟩;show jl (a.ja f g.bytes [] (b::c))=_;rw[oo v M (by grind)];rfl
 ·refine⟨.arr h (i+1) 0 (d++b::c).length false,dT a h ⟨f,i+1,r+1,false,false,d++b::c⟩,?_,h,i+1,r+1,false,rfl,by rw[dF o,aq rfl],.inl rfl,λA m _=>by rw[dF o,ao m],(k.put _ _).hp,(k.put _ _).low,by rw[fI];omega⟩;show jl (a.ma f g.bytes h i d.length (b::c))=_;have hl:d.length<=Q.length:=by have:=bG List.length O;rw[List.length_take]at this;omega
  have:a.ma f g.bytes h i d.length (b::c)=some (.arr h (i+1) 0 (d++b::c).length false,dT a h ⟨f,i+1,r+1,false,false,d++b::c⟩):=by
   unfold H.ma;rw[o];simp_all[uZ,m8,gX,jz,pf,bj,hl,m6,dS,bh]
  rw[this];rfl
def Xt(b:H)(d:T)(h:Nat)(g:List T)(f:T)(c:H):Prop:=Gr c f h g/\(∀a,a<b.size->dM d≠some a->c.get a=b.get a)/\(∀a,dM f=some a->dM d=some a\/b.size<=a)/\gH b.size c
def AX.xt{c:H}{g:T}{f:Nat}{b:List T}{h:T}{d:H}(a:AX c g f b h d):Xt c g f b h d:=by
 have j:=a.gr;obtain⟨m,n,s,e,rfl,o,p,q,k⟩:=a;refine⟨j,λi l r=>?_,λi l=>?_,k⟩
 ·grind
 grind [id,ar,Ag]
def Xt.refl{a:H}{b:T}{f:Nat}{c:List T}(g:Gr a b f c)(d:gH 0 a):Xt a b f c b a:=⟨g,λ_ _ _=>rfl,λ_ h=> .inl h,d.hp,d.low,au _⟩
def Xt.trans{d f g:H}{j k l:T}{c:Nat}{q Kb:List T}(m:Xt d j c q k f)(n:Xt f k c Kb l g):Xt d j c Kb l g:=by
 obtain⟨_,a2,a3,a4⟩:=m;obtain⟨o,p,s,b⟩:=n;have:=a4.sz;refine⟨o,λa h i=>?_,λa h=>?_,b.hp,b.low,aO a4.sz b.sz⟩
 ·rw[p a B (λr=>(a3 a r).elim i (λt=>by omega)),a2 a h i]
 grind
theorem Xt.cons{c d:H}{g h:T}{f:Nat}{b:List T}(i:Xt c g f b h d)(a:iI):Xt c g f b h (d.cons a):=by
 obtain⟨a1,a2,a3,a4⟩:=i;have:=a4.sz;refine⟨a1.mono λl j=>?_,λm n o=>?_,a3,(a4.cons a).hp,(a4.cons a).low,(a4.cons a).sz⟩
 ·have⟨_,_,_,_,k,_⟩:=a1.box j;have:=H.ej k;rw[dO,ao B]
 ·rw[dO,ao B];grind
def v8{b:Nat}{c f:H}{k o:T}{x t F i:Nat}{A:Bool}{G:List T}{l:List T}(bs:gH 0 c)(R:∀a,Fp c b a->a<c.size)(n:c.get b=some ⟨t,0,F,A,false,[.agg l]⟩)(al:l[i]? =some k)(a8:x≠t)
 {Q:List T} (X:Gr c k x Q) (U:Xt c k x G o f):f.get b=c.get b/\∀g,g=(⟨t,0,F+1,A,false,[.agg (l.set i o)]⟩:iI)->
  Step b c (dT f b g)/\(∀a,Fp (dT f b g) b a->a<(dT f b g).size)/\Gr (dT f b g) o x G/\
   ∀r y Kb,r∈l->Gr c r y Kb->(∀a,dM k=some a->dM r≠some a)->y≠t->Gr (dT f b g) r y Kb/\∀a,dM o=some a->dM r≠some a:=by
 have an:=H.ej n;have bk:k∈l:=ax al;obtain⟨K,E,ap,S⟩:=U;have Y:∀a,dM k=some a->a≠b:=λa d q=>by
  subst q;have⟨_,_,_,_,j,_⟩:=X.box d;rw[n]at j;grind
 have aA:Step b c f/\f.get b=c.get b/\(∀a,dM o=some a->a≠b/\(dM k=some a\/c.size<=a))/\(∀a,a≠b->dM k≠some a->a<c.size->f.get a=c.get a):=by
  have M:f.get b=c.get b:=E b an λj=>Y b j rfl;refine⟨⟨S,λp m C=>E p m λj=>C (.inr ⟨_,n,k,by grind [T.cells,eY],j⟩),λp m=>by rw[iL M]at m;grind⟩,M,λp m=>⟨?_,ap p m⟩,λp _ m hl=>E p hl m⟩
  grind
 obtain⟨w,I,O,bn⟩:=aA;refine⟨I,λg bl=>?_⟩;have s:f.get b=some ⟨t,0,F,A,false,[.agg l]⟩:=I.trans n;have ae:(dT f b g).get b=some g:=by rw[dF s,aq rfl]
 have W:∀h∈eY g.eg,h∈l\/h=o:=by
  grind [T.cells,eY,bZ]
 have aX:∀h∈l,∀a,dM h=some a->Fp c b a:=λh u a d=> .inr ⟨_,n,h,by grind [T.cells,eY],d⟩;have av:Step b c (dT f b g):=by
  have N:gH 0 f:=⟨w.ok.hp,w.ok.low,aw _⟩;refine⟨⟨(N.put b g).hp,(N.put b g).low,by rw[fI];exact w.ok.sz⟩,λa d C=>?_,λa d=>?_⟩
  ·rw[dF s,ao (λq=>C (.inl q))];grind
  ·rcases d with rfl|⟨z,v,h,u,d⟩
   ·exact .inl (.inl rfl)
   grind
 have bi:∀a,dM o=some a->a<f.size:=λa d=>by have⟨_,_,_,_,j,_⟩:=K.box d;exact H.ej j
 refine⟨av,λa d=>?_,?_,λr y Kb aE L aN a7=>⟨?_,λa d q=>?_⟩⟩
 ·rw[fI];rcases d with rfl|⟨z,v,h,u,d⟩
  ·exact H.ej s
  ·rw[ae]at v;simp only[ar]at v;subst v;rcases W h u with u|rfl
   ·have:=R a (.inr ⟨_,n,h,by grind [T.cells,eY],d⟩);have:c.size<=f.size:=w.ok.sz;omega
   grind
 ·exact K.mono λa d=>by rw[dF s,ao (O a d).1]
 ·refine L.mono λa d=>?_;have⟨_,_,_,_,j,_⟩:=L.box d;have V:a≠b:=λq=>by subst q;rw[n]at j;grind
  rw[dF s,ao V]
  grind
 grind
section
variable {P:ai}{cx:Ctx}{tb:fw}{G:Nat}
def abW{c:aj}{a:kI}{b:List T}{d:H}{l:af Oper}{j:aa Tmp}{k:List Oper}{n m:fH}{i:iq}(o:a.Ok P cx c)(ht:tb.h c=some a)(p:a.pre b d)
 (r:∀g f,a.post b d g f->XK (some (g,f)) cx (pK P cx tb) G l j k n m i):XK (hl P cx tb c b d) cx (pK P cx tb) G l j k n m i:=by
 have⟨g,f,e,q⟩:=D9 ht o p;rw[e];grind
def Xn{d:aj}{b:kI}{c:List T}{a:H}{q:af Oper}{j:List (Nat×Nat)}{k:aa Tmp}{p:Op}{n:List Oper}{m:Nat}{o:List (Nat×Nat)}{l:List (Nat×H×H)}{s r:fH}{i:iq}(t:b.Ok P cx d)(ht:tb.h d=some b)(u:b.pre c a)
 (w:∀g f,b.post c a g f->Mi (some (g,f)) cx (pK P cx tb) G q j k p n m o l s r a i):Mi (hl P cx tb d c a) cx (pK P cx tb) G q j k p n m o l s r a i:=by
 have⟨g,f,e,v⟩:=D9 ht t u;rw[e];grind
def hlB{c:aj}{d:kI}(m:d.Ok P cx c)(n:∀b a g f,d.post b a g f->f=a/\FE g):∃k:List T->H->Bool,∀{tb:fw},tb.h c=some d->∀b a,d.pre b a->hl P cx tb c b a=some (.bool (k b a),a):=by
 let i:fw:=⟨λ_=>none,λ_=>some d⟩
 refine⟨λb a=>match hl P cx i c b a with|some (.bool j,_)=>j|_=>false,λ{tb} ht b a o=>?_⟩;have l:hl P cx tb c b a=hl P cx i c b a:=by unfold hl;rw[ht]
 have⟨g,f,e,p⟩:=D9 (tb:=i) rfl m o;obtain⟨rfl,j,rfl⟩:=n _ _ _ _ p;rw[l]
 grind
def hlI{c:aj}{d:kI}(m:d.Ok P cx c)(n:∀b a g f,d.post b a g f->f=a/\D7 g):∃k:List T->H->Int,∀{tb:fw},tb.h c=some d->∀b a,d.pre b a->hl P cx tb c b a=some (.int .i64 (k b a),a):=by
 let i:fw:=⟨λ_=>none,λ_=>some d⟩
 refine⟨λb a=>match hl P cx i c b a with|some (.int _ j,_)=>j|_=>0,λ{tb} ht b a o=>?_⟩;have l:hl P cx tb c b a=hl P cx i c b a:=by unfold hl;rw[ht]
 have⟨g,f,e,p⟩:=D9 (tb:=i) rfl m o;obtain⟨rfl,j,rfl⟩:=n _ _ _ _ p;rw[l]
 grind
end
def lM(b a:H):H:=⟨a.size,if a.low<b.low then a.low else b.low,a.eZ⟩
def fO(c b:H)(a:Nat):(lM c b).get a=b.get a:=H.qz b _ a
@[simp]def vZ (b a:H):(lM b a).size=a.size:=id rfl
def gH.out{c:Nat}{b:H}(a:gH c b)(h:H):gH c (lM h b):=⟨a.hp,by have:=a.low;unfold lM;simp only;split<;>omega,a.sz⟩
def Step.out{c:Nat}{h a:H}(b:Step c (TI.hr h) a):Step c h (lM h a):=b.hr.JK (fO h a) rfl ⟨(b.ok.out h).hp,(b.ok.out h).low,aw _⟩
def Gr.out{a:H}{d:T}{c:Nat}{b:List T}(g:Gr a d c b)(h:H):Gr (lM h a) d c b:=g.mono λf _=>fO h a f
def jr(ι:Type)(pre:ι->List T->H->Prop)(post:ι->List T->H->T->H->Prop):kI:=⟨λa b=>∃c,pre c a b,λa b f d=>∀c,pre c a b->post c a b f d⟩
section
variable {P:ai}{cx:Ctx}{G:Nat}{ι:Type}{pre:ι->List T->H->Prop}{post:ι->List T->H->T->H->Prop}
def jn{tb:fw}(Q:P.follows .mixedOrders=true)(iU:iG P cx){t:aj}{d:Func}{r:DL}(k:C4 P cx t d G r)(l:List T->H->Nat)(R:∀c p a,pre c p a->p.length<=d.ntmps)
 (Y:∀c b a,pre c b a->∀C,mp C 0 b->W (jk cx (pK P cx tb) (l b a) G r (d.body.getD .skip) ⟨C,.nil⟩ (hr a)) (yw cx G d.results.toList λn L=>post c b a (iz n) (lM a L))):(jr ι pre post).Ok P cx t:=by
 intro b a ⟨al,S⟩;have z:∀c,pre c b a->∃i h,rZ cx (pK P cx tb) (l b a) d G true b a=some (i,h)/\post c b a i h:=by
  intro c j;have⟨A,X,_,N⟩:=md G d.ntmps 0 b (R c b a j);have⟨x,e,u,g,ae,n,U,m⟩:=CZ (Y c b a j A N);have g:=pJ _ k.dr _ _ _ g;have⟨I,f⟩:=yR k.ok;rw[f]at g;refine⟨_,_,?_,m⟩;unfold rZ;rw[f];obtain⟨o,y,q⟩:=a;simp only;rw[X,dS];have g:jP cx (pK P cx tb) (l b ⟨o,y,q⟩) G I ⟨A,.nil⟩ ⟨o,o,q⟩=some (x,e,u):=g;rw[g,dS,lh];have V:=nU U;have O:=vf y (iz n) u;rcases ae with rfl|rfl<;>(simp only;rw[V,dS];exact O)
 have⟨i,h,v,_⟩:=z al S;refine⟨i,h,λc j=>?_,λE w an K s M=>oJ (F:=⟨d,G,true,none⟩) Q iU k.at_ k.ok _ (CM P cx tb) (l b a) b a i h v E w an K s M⟩;have⟨av,ap,f,m⟩:=z c j;rw[v]at f;simp only[ar,aB]at f;rw[f.1,f.2];exact m
def iD{tb:fw}{f:aj}{d:List T}{g:H}{m:af Oper}{j:aa Tmp}{l:List Oper}{o n:fH}{i:iq}(p:(jr ι pre post).Ok P cx f)(ht:tb.h f=some (jr ι pre post))(b:ι)(k:pre b d g)
 (r:∀c a,post b d g c a->XK (some (c,a)) cx (pK P cx tb) G m j l o n i):XK (hl P cx tb f d g) cx (pK P cx tb) G m j l o n i:=
 abW p ht ⟨b,k⟩ λc a q=>r c a (q b k)
def lO{tb:fw}{g:aj}{f:List T}{a:H}{r:af Oper}{j:List (Nat×Nat)}{k:aa Tmp}{q:Op}{o:List Oper}{n:Nat}{p:List (Nat×Nat)}{l:List (Nat×H×H)}{t s:fH}{i:iq}(u:(jr ι pre post).Ok P cx g)(ht:tb.h g=some (jr ι pre post))(c:ι)(m:pre c f a)
 (w:∀d b,post c f a d b->Mi (some (d,b)) cx (pK P cx tb) G r j k q o n p l t s a i):Mi (hl P cx tb g f a) cx (pK P cx tb) G r j k q o n p l t s a i:=
 Xn u ht ⟨c,m⟩ λd b v=>w d b (v c m)
def yY(g:ι->Nat){f:aj}(step:∀c,(jr ι (λa d b=>pre a d b/\g a<c) post).Ok P cx f->(jr ι (λa d b=>pre a d b/\g a<c+1) post).Ok P cx f)(c:Nat):(jr ι (λa d b=>pre a d b/\g a<c) post).Ok P cx f:=by
 induction c with
 |zero=>intro h b ⟨a,_,i⟩;omega
 |succ c j=>simp_all
end
def A3{d j q:Nat}{n:Bool}{c:H}{l cells':List T}(w:gH 0 c)(y:∀b,Fp c d b->b<c.size)(g:c.get d=some ⟨j,0,q,n,false,[.agg l]⟩)(t:∀a∈cells',a∈l\/dM a=none\/∃p∈l,dM a=dM p):
 ∀h,h=(⟨j,0,q+1,n,false,[.agg cells']⟩:iI)->Step d c (dT c d h)/\(∀b,Fp (dT c d h) d b->b<(dT c d h).size)/\(dT c d h).get d=some h/\∀a i m,Gr c a i m->i≠j->Gr (dT c d h) a i m:=by
 rintro h rfl;have u:∀a∈cells',∀b,dM a=some b->Fp c d b:=λa o b f=>by
  rcases t a o with k|k|⟨p,A,k⟩
  ·exact .inr ⟨_,g,a,by grind [T.cells,eY],f⟩
  ·rw[k]at f;grind
  ·exact .inr ⟨_,g,p,by grind [T.cells,eY],by rw[<-k];exact f⟩
 have x:=Step.put w g ⟨j,0,q+1,n,false,[.agg cells']⟩ (λa o b f=> .inl (u a (by grind [T.cells,eY]) b f));refine⟨x,λb f=>?_,by rw[dF g,aq rfl],λa i m r z=>r.mono λb s=>?_⟩
 ·rw[fI];rcases f with rfl|⟨C,v,a,o,f⟩
  ·exact H.ej g
  ·rw[dF g,aq rfl]at v
   grind [ar,T.cells,eY]
 ·have⟨_,_,_,_,f,_⟩:=r.box s;rw[dF g,ao (λk=>by subst k;rw[g]at f;grind)]
def Xl(c:H)(d:Nat)(a:T×aa (Nat×List T)):Prop:=match a.2 with
 |none=>dM a.1=none
 |some b=>Gr c a.1 b.1 b.2/\b.1≠d
structure m9(h:H)(w szw ver:Nat)(F:List (T×aa (Nat×List T))):Prop where
 ok:gH 0 h
 get:h.get w=some ⟨szw,0,ver,true,false,[.agg (F.map (·.1))]⟩
 Rk:∀f∈F,Xl h szw f
 Un:∀(j k:Nat),j≠k->∀a b,F[j]? =some a->F[k]? =some b->∀c,dM a.1=some c->dM b.1≠some c
def m9.lt{a:H}{b f g:Nat}{c:List (T×aa (Nat×List T))}(d:m9 a b f g c):b<a.size:=H.ej d.get
def m9.fp{b:H}{h m n:Nat}{i:List (T×aa (Nat×List T))}(d:m9 b h m n i):∀a,Fp b h a->a<b.size:=by
 rintro a (rfl|⟨p,c,o,g,f⟩)
 ·exact d.lt
 rw[d.get]at c;simp only[ar]at c;subst c;simp only[eY,cM,dc,cj,T.cells]at g;obtain⟨j,k,rfl⟩:=List.mem_map.1 g;have:=d.Rk j k;unfold Xl at this;split at this
 ·rw[this]at f;grind
 ·have⟨_,_,_,_,l,_⟩:=this.1.box f;exact H.ej l
def m9.gr{c:H}{l j k:Nat}{a:List (T×aa (Nat×List T))}(i:m9 c l j k a){f:T}{d:Nat}{b:List T}(h:Nat)(g:a[h]? =some (f,some (d,b))):Gr c f d b:=(i.Rk _ (ax g)).1
def m9.A9{c:H}{d i j:Nat}{a:List (T×aa (Nat×List T))}(h:m9 c d i j a){f:T×aa (Nat×List T)}(k:f∈a){b:Nat}(g:dM f.1=some b):Fp c d b:= .inr ⟨_,h.get,f.1,by simp only[eY,cM,dc,cj,T.cells];grind,g⟩
def m9.step{d f:H}{c j k:Nat}{g:List (T×aa (Nat×List T))}(b:m9 d c j k g)(n:gH 0 f)(i:∀a,Fp d c a->f.get a=d.get a):m9 f c j k g:=by
 refine⟨n,by rw[i c (.inl rfl)];exact b.get,λl h=>?_,b.Un⟩;have:=b.Rk l h;unfold Xl at this|-;split at this
 ·omega
 ·exact⟨this.1.mono λa m=>i a (b.A9 h m),this.2⟩
theorem m9.cons{c:H}{w d f:Nat}{b:List (T×aa (Nat×List T))}(a:m9 c w d f b)(g:iI):m9 (c.cons g) w d f b:=a.step (a.ok.cons g) λh i=>by rw[dO,ao (by have:=a.fp h i;omega)]
def m9.ry{b:H}{c h i:Nat}{d:List (T×aa (Nat×List T))}(f:m9 b c h i d){a:Nat}{m:iI}(g:Lb c b a m)(j:iI):m9 (dT b a j) c h i d:=f.step (f.ok.put a j) λn k=>by rw[dF g.get,ao (λl=>g.nf (by rw[<-l];exact k))]
def m9.ZP{o b:H}{a d n m:Nat}{f:List (T×aa (Nat×List T))}(p:m9 o a d n f)(i:T×aa (Nat×List T)){j:iI}(x:j=⟨d,0,n+1,true,false,[.agg ((f.set m i).map (·.1))]⟩)(t:b.get a=o.get a)(z:gH 0 b)
 (A:Xl (dT b a j) d i) (C:∀(c:Nat) h,c≠m->f[c]? =some h->Xl (dT b a j) d h/\(∀g,dM i.1=some g->dM h.1≠some g)):m9 (dT b a j) a d (n+1) (f.set m i):=by
 have w:=t.trans p.get;refine⟨z.put _ _,by rw[dF w,aq rfl,x],λh s=>?_,λc y v q r k l g=>?_⟩
 ·have⟨c,u⟩:=cH s;rw[bU]at u
  grind
 ·rw[bU]at k l;split at k
  ·grind
  ·split at l
   ·grind
   ·exact p.Un c y v q r k l g
def m9.app{j d:H}{c l m k:Nat}{b:List (T×aa (Nat×List T))}(a:m9 j c l m b){s t:T}{I o:List T}(g:Nat)(q:b[g]? =some (s,some (k,I)))(v:Xt j s k o t d):
 d.get c=some ⟨l,0,m,true,false,[.agg (b.map (·.1))]⟩/\em j d c=true/\∀h,h=(⟨l,0,m+1,true,false,[.agg ((b.set g (t,some (k,o))).map (·.1))]⟩:iI)->Step c j (dT d c h)/\m9 (dT d c h) c l (m+1) (b.set g (t,some (k,o))):=by
 have p:=a.Rk _ (ax q);have N:(b.map (·.1))[g]? =some s:=by rw[aQ,q];rfl
 have⟨r,W⟩:=v8 a.ok a.fp a.get N p.2 p.1 v;refine⟨r.trans a.get,eQ r,λh z=>?_⟩;have⟨X,i,L,S⟩:=W h (by rw[z,bO]);have U:gH 0 d:=by obtain⟨_,_,_,A⟩:=v;exact⟨A.hp,A.low,aw _⟩
 refine⟨X,a.ZP _ z r U ⟨L,p.2⟩ λR i Q w=>?_⟩;have y:=ax w;have f:=a.Rk i y;have O:i.1∈b.map (·.1):=List.mem_map_of_mem y;obtain⟨u,K⟩:=i;cases K with
 |none=>exact⟨f,λY _ V=>by rw[show dM u=none from f]at V;grind⟩
 |some C=>
  have⟨F,G⟩:=S u C.1 C.2 O f.1 (λE M=>a.Un g R (aW Q) _ _ q w E M) f.2;exact⟨⟨F,f.2⟩,G⟩
def m9.aeE{f:H}{c l m:Nat}{b:List (T×aa (Nat×List T))}(a:m9 f c l m b)(h:Nat){v':T}(j:dM v'=none)(x:∃p,b[h]? =some (p,none)):
 ∀d,d=(⟨l,0,m+1,true,false,[.agg ((b.set h (v',none)).map (·.1))]⟩:iI)->Step c f (dT f c d)/\m9 (dT f c d) c l (m+1) (b.set h (v',none)):=by
 intro d o;obtain⟨u,i,w,t⟩:=A3 a.ok a.fp a.get (cells':=(b.set h (v',none)).map (·.1)) (λp n=>by
  grind) d o
 refine⟨u,a.ZP _ o rfl a.ok j λz i y s=>?_⟩;have n:=ax s;have g:=a.Rk i n;obtain⟨v,r⟩:=i;cases r with
 |none=>exact⟨g,λq k=>by rw[show dM v'=none from j]at k;grind⟩
 |some A=>exact⟨⟨t _ _ _ g.1 g.2,g.2⟩,λq k=>by rw[show dM v'=none from j]at k;grind⟩
def m9.elem{l:H}{u M N c h j q:Nat}{k:Bool}{r:List T}{d:List (T×aa (Nat×List T))}(a:m9 l u M N d){o:T}{s:List T}(i:Nat)(C:d[i]? =some (o,some (c,s)))(m:dM o=some h)(b:l.get h=some ⟨c,j,q,k,false,r⟩)(g:Nat)(x:T):
 Step u l (dT l h ⟨c,j,q+1,k,false,r.set g x⟩)/\m9 (dT l h ⟨c,j,q+1,k,false,r.set g x⟩) u M N (d.set i (o,some (c,s.set g x))):=by
 have y:=a.Rk _ (ax C);have I:h≠u:=λL=>by subst L;rw[a.get]at b;simp at b;exact y.2 b.1.symm
 have aE:=Step.ZY a.ok b (a.A9 (ax C) m) I ⟨c,j,q+1,k,false,r.set g x⟩;have av:(d.set i (o,some (c,s.set g x))).map (·.1)=d.map (·.1):=by
  rw[bO];simp only;apply cN;intro n;rw[bU]
  grind
 refine⟨aE,a.ok.put _ _,by rw[dF b,ao (aW I),av];exact a.get,λG ap=>?_,λn K aA O v Y z=>?_⟩
 ·obtain⟨n,f⟩:=cH ap;rw[bU]at f;split at f
  ·split at f
   ·simp only[ar]at f;subst f;refine⟨?_,y.2⟩;rcases y.1 with⟨rfl,t⟩|⟨R,aN,a8,aX,bi,rfl,t,X⟩
    ·simp at m
    ·simp only[Ag,ar]at m;subst m;rw[b]at t;simp only[ar,iI.mk.injEq]at t;obtain⟨_,rfl,rfl,rfl,_,rfl⟩:=t;exact .inr ⟨R,j,q+1,k,r.set g x,by rw[cG],by rw[dF b,aq rfl],by rw[cG,List.take_set,X]⟩
   grind
  ·rename_i L;have A:=a.Rk G (ax f);obtain⟨a7,W⟩:=G;cases W with
   |none=>exact A
   |some p=>exact⟨A.1.mono λv z=>by rw[dF b,ao (λe=>by subst e;exact a.Un i n B _ _ C f v m z)],A.2⟩
 ·have:∀(E:Nat) (w:T×aa (Nat×List T)),(d.set i (o,some (c,s.set g x)))[E]? =some w->∃F,d[E]? =some F/\F.1=w.1:=by
   intro E w an;rw[bU]at an
   grind
  obtain⟨Q,ae,U⟩:=this n O Y;obtain⟨S,al,V⟩:=this K v z;rw[<-U,<-V];exact a.Un n K aA Q S ae al
def Gr.fz{b:H}{f:T}{k:Nat}{h:Type}{a:h->T}{c:List h}(d:Gr b f k (c.map a))(j:∀g,wn b 11 (a g)=some (a g)):TI.fz b f=some (sl (c.map a)):=by
 have:=d.qA j;rcases d with⟨rfl,i⟩|⟨l,m,q,n,r,rfl,o,p⟩
 ·rw[i];rfl
 simp_all
def Xt.out{h b:H}{d f:T}{c:Nat}{a:List T}(g:Xt (TI.hr h) d c a f b):Xt h d c a f (lM h b):=by
 obtain⟨a1,a2,a3,a4⟩:=g;exact⟨a1.out h,λi j k=>by rw[fO,a2 i j k,gu],a3,(a4.out h).hp,(a4.out h).low,a4.sz⟩
def Gr.mQ{cx:Ctx}{b:H}{j:T}{a:Nat}{k:Type}{f:k->T}{h:List k}(s:Gr b j a (h.map f))(o:gH 0 b){i l:ab}{p d:Ty}(m:cx.ty i=some p)(n:p.u= .slice l)(t:cx.ty l=some d)(y:d.size=a)(v:1<=d.bytes)(w:∀x,Eg (f x)=a)(x:k)(z:(h.length+1)*d.bytes<=70368744177664):
 ∃g c,iN cx (b.cons ⟨a,0,0,true,false,[f x]⟩) i i j (.arr b.size 0 0 1 false)=some (.val g c)/\Xt b j a ((h++[x]).map f) g c:=by
 have q:=(Xt.refl s o).cons ⟨a,0,0,true,false,[f x]⟩;have⟨g,c,e,r⟩:=Gr.app (cx:=cx) q.1 (o.cons _) (x:= .arr b.size 0 0 1 false) (xs:=[f x]) m n t m n y v (by rw[gh];simp) (by simpa using show(f x).cells.length=a from w x) J (by grind);exact⟨g,c,e,by rw[List.map_append];exact q.trans r.xt⟩
end
def m9.start{h:H}{w szw ver:Nat}{F:List (T×aa (Nat×List T))}(o:gH 0 h)(g:h.get w=some ⟨szw,0,ver,true,false,[.agg (F.map (·.1))]⟩)
 (f:∀a∈F,(a.2=none/\dM a.1=none)\/(a.1= .Y [] false/\∃e,a.2=some (e,[])/\e≠szw)):m9 h w szw ver F/\∀c,Fp h w c->c=w:=by
 have i:∀a∈F,dM a.1=none:=λa h=>by
  rcases f a h with k|k
  ·exact k.2
  ·rw[k.1];rfl
 refine⟨⟨o,g,λa h=>?_,λs k _ l c m r q b=>by rw[i l (ax m)]at b;simp at b⟩,λc b=>?_⟩
 ·obtain⟨p,t⟩:=a;rcases f _ h with⟨rfl,k⟩|⟨rfl,e,rfl,k⟩
  ·exact k
  ·exact⟨Gr.nil _ _,k⟩
 ·rcases b with rfl|⟨u,d,p,j,b⟩
  ·rfl
  ·rw[g]at d;simp only[ar]at d;subst d;simp only[eY,cM,dc,cj,T.cells]at j;obtain⟨a,n,rfl⟩:=List.mem_map.1 j;rw[i a n]at b;simp at b
def m9.other{b e:H}{d l m g:Nat}{i:List (T×aa (Nat×List T))}(h:m9 b d l m i)(j:∀a,Fp b d a->¬Fp b g a)(f:Step g b e):m9 e d l m i/\∀a,Fp e d a->¬Fp e g a:=by
 have k:∀a,Fp b d a->e.get a=b.get a:=λa c=>f.get a (h.fp a c) (j a c);refine⟨h.step ⟨f.ok.hp,f.ok.low,aw _⟩ k,λa c n=>?_⟩;rw[iL (k d (.inl rfl))]at c;rcases f.fp a n with q|q
 ·exact j a c q
 ·have:=h.fp a c;omega
structure Sm(b:Nat)(h h':H):Prop where
 ok:gH 0 h'
 size:h'.size=h.size
 get:∀c,c≠b->h'.get c=h.get c
def Sm.refl{b:Nat}{a:H}(c:gH 0 a):Sm b a a:=⟨c,rfl,λ_ _=>rfl⟩
theorem Sm.put{a:Nat}{e b:H}(d:Sm a e b){x:iI}(h:b.get a=some x)(g:iI):Sm a e (dT b a g):=⟨d.ok.put a g,by rw[fI];exact d.size,λc f=>by rw[dF h,ao f];exact d.get c f⟩
def Sm.gY{d:Nat}{a e:H}{b g h:Nat}{c:List (T×aa (Nat×List T))}(f:Sm d a e)(l:m9 a b g h c)(j:¬Fp a b d):m9 e b g h c:=l.step f.ok λi k=>f.get i λm=>j (by rw[<-m];exact k)
def ir.ft{b c:H}{V V':Nat->Prop}{d:Nat}{e f:List T}(g:ir (FT b V d) e f)(h:∀a,V a->V' a/\c.get a=b.get a):ir (FT c V' d) e f:=g.imp λ_ _ i=>i.mono h
def Gr.IS{a:H}{V:Nat->Prop}{g:T}{l d:Nat}{b c:List T}(f:Gr a g l b)(h:d<=11)(e:ir (FT a V d) b c):TI.fz a g=some (sl c):=by
 have j:fG (wn a 11) b=some c:=pA (e.imp λ_ _ k=>(k.deep h).wn);have i:=f.jf;rcases f with⟨rfl,rfl⟩|⟨m,n,r,o,s,rfl,p,q⟩
 ·cases e;rfl
 ·rw[xr,i,dS,j];rfl
section
def ir.left{a f:Type}{b:a->f->Prop}{d:List a}{j:List f}(h:ir b d j){e:a}(c:e∈d):∃k,b e k:=by
 induction h with
 |nil=>simp at c
 |cons g _ i=>
  rcases List.mem_cons.1 c with rfl|q
  ·exact⟨_,g⟩
  ·exact i q
def FT.fzN{a:H}{z:Nat->Prop}{h:Nat}(G:∀c,z c->h<=c):∀{b:Nat} {j y:T},FT a z b j y->freeze a h b j=freeze a 0 b j:=by
 intro b;induction b with
 |zero=>intro j y v;exact v.elim
 |succ b E=>
  intro j y v;rcases v with⟨A,C,rfl⟩|⟨c,l,i,g,s,n,r,rfl,I,f,t,rfl⟩|⟨p,Q,rfl,t,rfl⟩
  ·rw[rY a h b j A C,rY a 0 b j A C]
  ·have u:fG (freeze a h b) n=fG (freeze a 0 b) n:=mL λk w=>by
    have⟨O,x⟩:=t.left w;exact E x
   have F:∀q,freeze a q (b+1) (.arr c l i g s)=fQ (Nat.ble q c) (M (a.get c) λk=>iI.casesOn k λ_ m _ exact o e=>
    fQ (Nat.beq m l) (Bool.casesOn o (M (M (jB i e) λd=>takeN g d) λn=>M (fG (freeze a q b) n) λr=>
     List.casesOn r (List.casesOn e (Bool.casesOn exact (some .fK) (some (.Y [] false))) λ_ _=>some .fK) λ_ _=>some (.Y r s)) none)):=λq=>rfl
   rw[F,F];have L:a.jf (.arr c l i g s)=M (a.get c) λk=>iI.casesOn k λ_ m _ _ o e=>fQ (Nat.beq m l) (Bool.casesOn o (M (jB i e) λd=>takeN g d) none):=rfl;rw[L]at f;rw[show Nat.ble h c=true from bR (G c I),show Nat.ble 0 c=true from bR (aw c)];show(M (a.get c) _)=(M (a.get c) _);cases K:a.get c with
   |none=>rfl
   |some k=>
    rw[K]at f;obtain⟨S,m,U,R,o,e⟩:=k;simp only[dS]at f|-;cases N:Nat.beq m l with
    |false=>rfl
    |true=>
     rw[N]at f;cases o with
     |true=>rfl
     |false=>
      have f:(M (jB i e) λd=>takeN g d)=some n:=f;show(M (M (jB i e) λd=>takeN g d) _)=(M (M (jB i e) λd=>takeN g d) _);rw[f,dS,dS,u]
  ·have u:fG (freeze a h b) p=fG (freeze a 0 b) p:=mL λk w=>by
    have⟨O,x⟩:=t.left w;exact E x
   show(M (fG (freeze a h b) p) _)=(M (fG (freeze a 0 b) p) _);rw[u]
def FT.top{b:H}{V:Nat->Prop}{h d:Nat}(I:d<=11)(q:∀a,V a->h<=a){c f:List T}(r:ir (FT b V d) c f):∃i,iZ b h (.agg c)=some i/\cn i= .agg f:=by
 have u:fG (iu b h) c=fG (iu b 0) c:=mL λA x=>by
  have⟨K,s⟩:=r.left x;have l:=(s.deep (show d<=12 by omega)).fzN q;rcases(s.deep (show d<=12 by omega))with⟨m,n,rfl⟩|⟨a,j,p,o,k,E,F,rfl,w,G,v,rfl⟩|⟨c,f,rfl,v,rfl⟩
  ·cases A<;>first|exact l|(simp[jJ]at m)
  ·have t:∀e,iu b e (.arr a j p o k)=(Bool.casesOn (Nat.ble e a) (some (.arr a j p o k)) (freeze b e 12 (.arr a j p o k)):aa T):=λe=>rfl;rw[t,t,show Nat.ble h a=true from bR (q a w),show Nat.ble 0 a=true from bR (aw a),l]
  ·exact l
 have g:qA b (.agg c)=some (.agg f):=by
  rw[Ri,pA (r.imp λC a e=>(e.deep (show d<=12 by omega)).fz)];rfl
 have g:(M (M (fG (iu b 0) c) λy=>some (T.agg y)) λz=>some (cn z))=some (.agg f):=g;rw[<-u]at g;have⟨i,m,n⟩:=dB.1 g;simp only[ar]at n;exact⟨i,m,n⟩
def Lb.jV{b:Nat}{c d:H}{a:Nat}{f:iI}(e:Lb b c a f)(h:d.get b=c.get b)(g:d.get a=c.get a):Lb b d a f:=⟨by rw[g];exact e.get,by rw[iL h];exact e.nf⟩
def tM(a b:H):H:=⟨a.size,(lM a b).low,(lM a b).eZ.drop ((lM a b).size-a.size)⟩
@[simp]def Yx (a b:H):(tM a b).size=a.size:=id rfl
def yM{h a:H}(d:Hp a)(e:h.size<=a.size){b:Nat}(c:b<h.size):(tM h a).get b=a.get b:=
 (G6 (h:=lM h a) (by unfold Hp at*;exact d) e c).trans (fO h a b)
def gH.cut{a b:H}(c:gH 0 a)(d:Hp b)(e:a.size<=b.size):gH 0 (tM a b):=
 ⟨by unfold Hp at*;unfold tM lM;simp;omega,by have:=c.low;unfold tM lM;simp only;split<;>omega,aw _⟩
def xK(a:H)(f:T)(b:H)(post:T->H->Prop):Prop:=
 Hp b/\a.size<=b.size/\(∀c e,c<a.size->b.get c=some e->b.get c=a.get c\/∀g∈eY e.eg,oR a.size g)/\∃d,iZ b a.size f=some d/\post (cn d) (tM a b)
section
variable {P:ai}{cx:Ctx}{G:Nat}{ι:Type}{pre:ι->List T->H->Prop}{post:ι->List T->H->T->H->Prop}
def p9{tb:fw}(Y:P.follows .mixedOrders=true)(iU:iG P cx){m:aj}{g:Func}{t:DL}(j:C4 P cx m g G t)(k:List T->H->Nat)(ae:∀d q a,pre d q a->q.length<=g.ntmps)
 (aE:∀d b a,pre d b a->∀E,mp E 0 b->W (jk cx (pK P cx tb) (k b a) G t (g.body.getD .skip) ⟨E,.nil⟩ (hr a)) (yw cx G g.results.toList λo Q=>xK a (iz o) Q (post d b a))):(jr ι pre post).Ok P cx m:=by
 intro b a ⟨aX,al⟩;have A:∀d,pre d b a->∃h c,rZ cx (pK P cx tb) (k b a) g G true b a=some (h,lM a c)/\xK a h c (post d b a):=by
  intro d i;have⟨C,aA,_,S⟩:=md G g.ntmps 0 b (ae d b a i);have⟨x,N,c,e,aN,o,ap,an⟩:=CZ (aE d b a i C S);have e:=pJ _ j.dr _ _ _ e;have⟨L,f⟩:=yR j.ok;rw[f]at e;refine⟨_,c,?_,an⟩;unfold rZ;rw[f];obtain⟨p,z,r⟩:=a;simp only;rw[aA,dS];have e:jP cx (pK P cx tb) (k b ⟨p,z,r⟩) G L ⟨C,.nil⟩ ⟨p,p,r⟩=some (x,N,c):=e;rw[e,dS,lh];have av:=nU ap;have X:=vf z (iz o) c;rcases aN with rfl|rfl<;>(simp only;rw[av,dS];exact X)
 have⟨h,c,u,a7,a8,bi,bk,l,bn⟩:=A aX al;have U:oU P cx ⟨m,b,a,h,lM a c⟩:=λK w bl M s R=>oJ (F:=⟨g,G,true,none⟩) Y iU j.at_ j.ok _ (CM P cx tb) (k b a) b a h (lM a c) u K w bl M s R;have V:=Pf U (by unfold Hp at*;exact a7) a8 (λI y f v=>by rw[fO]at v|-;exact bi I y f v) (by rw[sr (fO a c)];exact l);refine⟨cn bk,tM a c,λd i=>?_,V⟩;have⟨r2,n,f,p1,p2,p3,bs,p4,p5⟩:=A d i;rw[u]at f;simp only[ar,aB]at f;obtain⟨rfl,e⟩:=f;have O:iZ c a.size h=iZ n a.size h:=by rw[<-sr (fO a c),e,sr (fO a n)]
 rw[O,p4]at l;simp only[ar]at l;subst l;have:tM a c=tM a n:=by unfold tM;rw[e]
 rw[this];exact p5
