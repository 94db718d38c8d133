/- TiObj -/
import Derived.Test.YtajpdafdickapaaGreatDoorA8
set_option linter.all false
namespace Go.TI
noncomputable section
section
section
variable {cx:Ctx}{mask:Nat}{e:Env}
@[simp]def WW (a:ak) (b:Int):oy (.int a b)=some (.int a b):=id rfl
@[simp]def Vt:oy (.slice none 0 0)=some (.dK [] false):=id rfl
@[simp]def WU (a:ByteArray):oy (.string a)=some (.str (a.data.toList.map UInt8.toNat)):=PD (cx:=⟨λ_=>none,λ_=>none,λ_=>none⟩) (mask:=0) (e:=⟨.nil,.nil⟩) a
@[simp]def aa7 (a:List ao):fO cx mask e (.const (.agg a.toArray))=dV (fQ oy a) λb=>some (.agg b):=id rfl
end
@[simp]theorem RL (a:List T):dT (sl a)=none:=by cases a<;>rfl
@[simp]def oT1 (a:T):jP [a]=a:=id rfl
@[simp]def oT2 (a b:T) (c:List T):jP (a::b::c)= .tuple (a::b::c):=id rfl
@[simp]def oT0:jP []= .tuple []:=id rfl
@[simp]def afg (a:H):(hr a).low=a.size:=id rfl
@[simp]def Wm (a:H) (d f:iY) (b:Nat) (c:¬b=a.size):fk (a.cons d) (a.cons f) b=true:=by
 unfold fk;rw[dS,dS,aq c,aq c];cases a.get b<;>simp
def fG{b c:H}{a:Nat}(d:c.get a=b.get a):fk b c a=true:=by
 unfold fk;rw[d];cases b.get a<;>simp
def Fp(d:H)(b a:Nat):Prop:=a=b\/∃c,d.get b=some c/\∃f∈fF c.fg,dT f=some a
structure Step(w:Nat)(h h':H):Prop where
 ok:il h.size h'
 get:∀b,b<h.size->¬Fp h w b->h'.get b=h.get b
 fp:∀b,Fp h' w b->Fp h w b\/h.size<=b
theorem iT{c d:H}{a:Nat}(f:d.get a=c.get a)(b:Nat):Fp d a b=Fp c a b:=by unfold Fp;rw[f]
def Step.refl{d:Nat}{a:H}(b:il 0 a):Step d a a:=⟨⟨b.hp,b.low,aw _⟩,λ_ _ _=>rfl,λ_ c=> .inl c⟩
def Step.trans{g:Nat}{h d i:H}(a:Step g h d)(c:Step g d i):Step g h i:=by
 refine⟨⟨c.ok.hp,c.ok.low,aT a.ok.sz c.ok.sz⟩,λb f j=>?_,λb f=>?_⟩
 ·have d:=a.get b f j;have:=a.ok.sz;rw[c.get b J (λk=>(a.fp b k).elim j λk=>absurd k J),d]
 ·rcases c.fp b f with k|k
  ·exact a.fp b k
  ·exact .inr (aT a.ok.sz k)
structure Lb(w:Nat)(h:H)(b:Nat)(x:iY):Prop where
 get:h.get b=some x
 nf:¬Fp h w b
def Lb.lt{d:Nat}{b:H}{a:Nat}{f:iY}(c:Lb d b a f):a<b.size:=H.fh c.get
def Lb.ne{a:Nat}{c:H}{b:Nat}{g:iY}(f:Lb a c b g):b≠a:=λd=>f.nf (.inl d)
def Lb.step{d:Nat}{f g:H}{b:Nat}{i:iY}(a:Lb d f b i)(h:Step d f g):Lb d g b i:=
 ⟨by rw[h.get b a.lt a.nf];exact a.get,λc=>(h.fp b c).elim a.nf λc=>absurd c (by have:=a.lt;omega)⟩
theorem Step.cons{w:Nat}{a:H}(c:il 0 a)(i:w<a.size)(b:iY):Step w a (a.cons b):=by
 have f:(a.cons b).get w=a.get w:=by rw[dS,aq J]
 exact⟨⟨(c.cons b).hp,(c.cons b).low,dy⟩,λd h _=>by rw[dS,aq J],λd g=>by rw[iT f]at g;grind⟩
def Lb.new{b:Nat}{a:H}(j:b<a.size)(h:∀d,Fp a b d->d<a.size)(c:iY):Lb b (a.cons c) a.size c:=by
 have i:(a.cons c).get b=a.get b:=by rw[dS,aq J]
 exact⟨dy,λg=>by rw[iT i]at g;have:=h _ g;omega⟩
def Step.qx{c:Nat}{b:H}(k:il 0 b){a:Nat}{o:iY}(h:Lb c b a o)(d:iY)(g:H)(i:Step c g b)(p:g.size<=a):Step c g (dZ b a d):=by
 have m:(dZ b a d).get c=b.get c:=by rw[dN h.get,aq (aY h.ne)]
 refine⟨⟨(k.put a d).hp,(k.put a d).low,by rw[fK];exact i.ok.sz⟩,λf l n=>?_,λf j=>?_⟩
 ·rw[dN h.get,aq J];exact i.get f l n
 ·rw[iT m]at j;exact i.fp f j
theorem Step.put{b:Nat}{a:H}(i:il 0 a){x:iY}(h:a.get b=some x)(d:iY)(q:∀j∈fF d.fg,∀f,dT j=some f->Fp a b f\/a.size<=f):Step b a (dZ a b d):=by
 refine⟨⟨(i.put b d).hp,(i.put b d).low,by rw[fK];omega⟩,λc o k=>?_,λc g=>?_⟩
 ·rw[dN h,aq (λg=>k (.inl g))]
 ·rcases g with rfl|⟨r,l,j,p,m⟩
  ·exact .inl (.inl rfl)
  ·rw[dN h,ar rfl]at l
   grind
def Step.aaU{c:Nat}{b:H}(h:il 0 b){a:Nat}{m:iY}(f:b.get a=some m)(j:Fp b c a)(l:a≠c)(d:iY):Step c b (dZ b a d):=by
 have o:(dZ b a d).get c=b.get c:=by rw[dN f,aq (aY l)]
 refine⟨⟨(h.put a d).hp,(h.put a d).low,by rw[fK];omega⟩,λi n k=>?_,λi g=>?_⟩
 ·rw[dN f,aq (λg=>k (by rw[g];exact j))]
 grind [iT]
def Step.Ls{f:Nat}{g c:H}(d:Step f g c){b:H}(h:∀a,b.get a=c.get a)(m:b.size=c.size)(j:il 0 b):Step f g b:=
 ⟨⟨j.hp,j.low,by rw[m];exact d.ok.sz⟩,λa k l=>by rw[h];exact d.get a k l,λa i=>by rw[iT (h f)]at i;exact d.fp a i⟩
def VV(b:H)(c a:Nat):Fp (hr b) c a=Fp b c a:=iT (ik b c) a
def Step.hr{f:Nat}{c d:H}(a:Step f (hr c) d):Step f c d:=
 ⟨⟨a.ok.hp,a.ok.low,a.ok.sz⟩,λb g h=>by rw[a.get b g (by rw[VV];exact h),ik],λb i=>by have:=a.fp b i;rw[VV]at this;exact this⟩
def il.hr{b:Nat}{a:H}(c:il b a):il b (hr a):=⟨by rw[abX];exact c.hp,aw _,c.sz⟩
def Gr(h:H)(d:T)(i:Nat)(a:List T):Prop:=
 (d= .dK [] false/\a=[])\/∃b c j g f,d= .arr b c 0 a.length false/\h.get b=some ⟨i,c,j,g,false,f⟩/\f.take a.length=a
theorem Gr.nil(a:H)(b:Nat):Gr a (.dK [] false) b []:= .inl ⟨rfl,rfl⟩
theorem Gr.iy{d:H}{a:T}{f:Nat}{b:List T}(c:Gr d a f b):a.iy=true:=by
 rcases c with⟨rfl,_⟩|⟨g,h,j,i,k,rfl,_⟩<;>rfl
theorem Gr.cells{d:H}{a:T}{f:Nat}{b:List T}(c:Gr d a f b):a.cells=[a]:=by
 rcases c with⟨rfl,_⟩|⟨g,h,j,i,k,rfl,_⟩<;>rfl
def Gr.mono{d h':H}{b:T}{f:Nat}{c:List T}(i:Gr d b f c)(l:∀a,dT b=some a->h'.get a=d.get a):Gr h' b f c:=by
 rcases i with⟨rfl,rfl⟩|⟨a,g,m,h,n,rfl,j,k⟩
 ·exact .inl ⟨rfl,rfl⟩
 ·exact .inr ⟨a,g,m,h,n,rfl,by rw[l a rfl];exact j,k⟩
def Gr.box{g:H}{c:T}{h:Nat}{d:List T}(k:Gr g c h d){b:Nat}(l:dT c=some b):∃a i f j,g.get b=some ⟨h,a,i,f,false,j⟩/\c= .arr b a 0 d.length false:=by
 rcases k with⟨rfl,_⟩|⟨m,a,i,f,j,rfl,n,o⟩
 ·simp at l
 simp_all
def Gr.ne{a:H}{f g:T}{c d:Nat}{h LV:List T}(i:Gr a f c h)(j:Gr a g d LV)(o:c≠d):∀b,dT f=some b->dT g≠some b:=λb k l=>by
 have⟨_,_,_,_,m,_⟩:=i.box k;have⟨_,_,_,_,n,_⟩:=j.box l;rw[m]at n;grind
def Gr.jw{b:H}{c:T}{h:Nat}{a:List T}(d:Gr b c h a):b.jw c=some a:=by
 rcases d with⟨rfl,rfl⟩|⟨j,k,m,l,i,rfl,f,g⟩
 ·rfl
 ·have hl:a.length<=i.length:=by have:=bE List.length g;rw[List.length_take]at this;omega
  rw[ig,f];simp_all
def Gr.len{cx:Ctx}{g:H}{d:T}{h:Nat}{a:List T}(f:Gr g d h a)(b:H)(c:Ty)(i:ab)(o:c.u= .slice i):EY cx b c d=some (.val (.int .i64 a.length) b):=by
 rcases f with⟨rfl,rfl⟩|⟨j,k,p,l,q,rfl,m,n⟩
 ·simp_all
 simp_all
def Gr.Bp{c:H}{j:T}{h:Nat}{f:List T}(m:Gr c j h f){te:Ty}(p:te.size=h){i:Nat}(o:i<f.length):∃a b k g d,dT j=some a/\kK c te j i=some (.val (.ptr a b i 0) c)/\c.get a=some ⟨h,b,k,g,false,d⟩/\d[i]? =some f[i]:=by
 rcases m with⟨rfl,rfl⟩|⟨a,b,k,g,d,rfl,l,n⟩
 ·grind
 ·refine⟨a,b,k,g,d,rfl,?_,l,?_⟩
  ·rw[QX,l];simp_all
  grind
def Gr.rS{a:H}{d:T}{j:Nat}{h:Type}{f:h->T}{b:List h}(c:Gr a d j (b.map f))(p:∀g,xS a 11 (f g)=some (f g)):TI.rS a d=some (sl (b.map f)):=by
 have q:=c.jw;rcases c with⟨rfl,i⟩|⟨k,l,r,m,s,rfl,n,o⟩
 ·rw[i];rfl
 simp_all
def Gr.cut{cx:Ctx}{b:H}{i:T}{h:Nat}{a:List T}(m:Gr b i h a){ty te:Ty}{f:ab}(p:ty.u= .slice f)(ht:cx.ty f=some te)(t:te.size=h){n:Nat}(c:n<=a.length)(s:0<a.length):
 ∃j,Ol cx b ty i none (some n) none=some (.val j b)/\Gr b j h (a.take n)/\dT j=dT i:=by
 rcases m with⟨rfl,rfl⟩|⟨d,g,q,l,r,rfl,k,o⟩
 ·grind
 ·refine⟨.arr d g 0 n false,Lq ty te f d g 0 a.length n false _ p ht k (by grind) c,.inr ⟨d,g,q,l,r,by rw[List.length_take,ci c],k,?_⟩,rfl⟩;rw[List.length_take,ci c,<-o,List.take_take,ci c]
def Cg(c:H)(h:T)(j:Nat)(g:List T)(k:T)(d:H):Prop:=∃a f l i,k= .arr a f 0 g.length false/\d.get a=some ⟨j,f,l,i,false,g⟩/\
 (dT h=some a\/(dT h=none/\a=c.size))/\(∀b,b≠a->b<c.size->d.get b=c.get b)/\il c.size d
def Cg.gr{j:H}{l:T}{c:Nat}{a:List T}{d:T}{b:H}(f:Cg j l c a d b):Gr b d c a:=by
 obtain⟨g,h,m,i,rfl,k,_⟩:=f;exact .inr ⟨g,h,m,i,a,rfl,k,aK⟩
def Cg.set{i:H}{m:T}{d b c h:Nat}{f:Bool}{a:List T}{g:H}(o:Cg i m d a (.arr b c 0 a.length false) g)(k:g.get b=some ⟨d,c,h,f,false,a⟩)(l:Nat)(n:T):
 Cg i m d (a.set l n) (.arr b c 0 a.length false) (dZ g b ⟨d,c,h+1,f,false,a.set l n⟩):=by
 obtain⟨s,u,y,v,j,w,p,x,q⟩:=o;simp only[T.arr.injEq,and_true]at j;obtain⟨rfl,rfl⟩:=j;exact⟨b,c,h+1,f,by rw[cR],by rw[dN k,ar rfl],p,λt r hl=>by rw[dN k,aq r];grind,q.put _ _⟩
def Gr.app{cx:Ctx}{a:H}{j:T}{f:Nat}{d:List T}(B:Gr a j f d)(k:il 0 a){p q l:ab}{w y g:Ty}(C:cx.ty p=some w)(D:w.u= .slice l)(E:cx.ty l=some g)(F:cx.ty q=some y)(G:y.u= .slice l)(t:g.size=f)(K:1<=g.bytes)
 {x:T} {xs:List T} (L:a.jw x=some xs) (v:∀e∈xs,e.cells.length=f) (R:xs≠ []) (Q:(d.length+xs.length)*g.bytes<=70368744177664):
 ∃z s,iU cx a p q j x=some (.val z s)/\Cg a j f (d++xs) z s:=by
 have I:iU cx a p q j x=jI (a.append g.size g.bytes j xs):=by
  unfold iU pX nc;rw[C,ed,F,ed];simp only[D,E,G,L,ed];rw[t,nq v,iH]
 rw[I,t];obtain⟨b,c,rfl⟩:∃b c,xs=b::c:=by cases xs with|nil=>grind|cons b c=>simp
 rcases B with⟨rfl,rfl⟩|⟨h,i,r,O,N,rfl,o,M⟩
 ·refine⟨_,a.cons ⟨f,0,0,false,false,b::c⟩,?_,a.size,0,0,false,rfl,dy,.inr ⟨rfl,rfl⟩,λA m _=>by rw[dS,aq m],(k.cons _).hp,(k.cons _).low,dy⟩;show jI (a.jo f g.bytes [] (b::c))=_;rw[pq v K (by grind)];rfl
 ·refine⟨.arr h (i+1) 0 (d++b::c).length false,dZ a h ⟨f,i+1,r+1,false,false,d++b::c⟩,?_,h,i+1,r+1,false,rfl,by rw[dN o,ar rfl],.inl rfl,λA m _=>by rw[dN o,aq m],(k.put _ _).hp,(k.put _ _).low,by rw[fK];omega⟩;show jI (a.mN f g.bytes h i d.length (b::c))=_;have hl:d.length<=N.length:=by have:=bE List.length M;rw[List.length_take]at this;omega
  have:a.mN f g.bytes h i d.length (b::c)=some (.arr h (i+1) 0 (d++b::c).length false,dZ a h ⟨f,i+1,r+1,false,false,d++b::c⟩):=by
   unfold H.mN;rw[o];simp_all[zd,nq,iO,jW,rL,nY,ed,bj]
  rw[this];rfl
def Xt(b:H)(d:T)(h:Nat)(g:List T)(f:T)(c:H):Prop:=Gr c f h g/\(∀a,a<b.size->dT d≠some a->c.get a=b.get a)/\(∀a,dT f=some a->dT d=some a\/b.size<=a)/\il b.size c
def Cg.xt{c:H}{g:T}{f:Nat}{b:List T}{h:T}{d:H}(a:Cg c g f b h d):Xt c g f b h d:=by
 have j:=a.gr;obtain⟨m,n,s,e,rfl,o,p,q,k⟩:=a;refine⟨j,λi l r=>?_,λi l=>?_,k⟩
 ·grind
 grind [id,au,A2]
def Xt.refl{a:H}{b:T}{f:Nat}{c:List T}(g:Gr a b f c)(d:il 0 a):Xt a b f c b a:=⟨g,λ_ _ _=>rfl,λ_ h=> .inl h,d.hp,d.low,aw _⟩
def Xt.trans{d f g:H}{j k l:T}{c:Nat}{q LV:List T}(m:Xt d j c q k f)(n:Xt f k c LV l g):Xt d j c LV l g:=by
 obtain⟨_,a2,a3,a4⟩:=m;obtain⟨o,p,s,b⟩:=n;have:=a4.sz;refine⟨o,λa h i=>?_,λa h=>?_,b.hp,b.low,aT a4.sz b.sz⟩
 ·rw[p a J (λr=>(a3 a r).elim i (λt=>by omega)),a2 a h i]
 grind
theorem Xt.cons{c d:H}{g h:T}{f:Nat}{b:List T}(i:Xt c g f b h d)(a:iY):Xt c g f b h (d.cons a):=by
 obtain⟨a1,a2,a3,a4⟩:=i;have:=a4.sz;refine⟨a1.mono λl j=>?_,λm n o=>?_,a3,(a4.cons a).hp,(a4.cons a).low,(a4.cons a).sz⟩
 ·have⟨_,_,_,_,k,_⟩:=a1.box j;have:=H.fh k;rw[dS,aq J]
 ·rw[dS,aq J];grind
def xm{b:Nat}{c f:H}{k o:T}{x t D i:Nat}{A:Bool}{E:List T}{l:List T}(bn:il 0 c)(O:∀a,Fp c b a->a<c.size)(n:c.get b=some ⟨t,0,D,A,false,[.agg l]⟩)(Y:l[i]? =some k)(aX:x≠t)
 {N:List T} (V:Gr c k x N) (R:Xt c k x E o f):f.get b=c.get b/\∀g,g=(⟨t,0,D+1,A,false,[.agg (l.set i o)]⟩:iY)->
  Step b c (dZ f b g)/\(∀a,Fp (dZ f b g) b a->a<(dZ f b g).size)/\Gr (dZ f b g) o x E/\
   ∀r y LV,r∈l->Gr c r y LV->(∀a,dT k=some a->dT r≠some a)->y≠t->Gr (dZ f b g) r y LV/\∀a,dT o=some a->dT r≠some a:=by
 have ae:=H.fh n;have a7:k∈l:=ay Y;obtain⟨G,C,al,Q⟩:=R;have W:∀a,dT k=some a->a≠b:=λa d q=>by
  subst q;have⟨_,_,_,_,j,_⟩:=V.box d;rw[n]at j;grind
 have ap:Step b c f/\f.get b=c.get b/\(∀a,dT o=some a->a≠b/\(dT k=some a\/c.size<=a))/\(∀a,a≠b->dT k≠some a->a<c.size->f.get a=c.get a):=by
  have K:f.get b=c.get b:=C b ae λj=>W b j rfl;refine⟨⟨Q,λp m B=>C p m λj=>B (.inr ⟨_,n,k,by grind [T.cells,fF],j⟩),λp m=>by rw[iT K]at m;grind⟩,K,λp m=>⟨?_,al p m⟩,λp _ m hl=>C p hl m⟩
  grind
 obtain⟨w,F,M,bi⟩:=ap;refine⟨F,λg a8=>?_⟩;have s:f.get b=some ⟨t,0,D,A,false,[.agg l]⟩:=F.trans n;have X:(dZ f b g).get b=some g:=by rw[dN s,ar rfl]
 have U:∀h∈fF g.fg,h∈l\/h=o:=by
  grind [T.cells,fF,cm]
 have aE:∀h∈l,∀a,dT h=some a->Fp c b a:=λh u a d=> .inr ⟨_,n,h,by grind [T.cells,fF],d⟩;have an:Step b c (dZ f b g):=by
  have L:il 0 f:=⟨w.ok.hp,w.ok.low,ax _⟩;refine⟨⟨(L.put b g).hp,(L.put b g).low,by rw[fK];exact w.ok.sz⟩,λa d B=>?_,λa d=>?_⟩
  ·rw[dN s,aq (λq=>B (.inl q))];grind
  ·rcases d with rfl|⟨z,v,h,u,d⟩
   ·exact .inl (.inl rfl)
   grind
 have a6:∀a,dT o=some a->a<f.size:=λa d=>by have⟨_,_,_,_,j,_⟩:=G.box d;exact H.fh j
 refine⟨an,λa d=>?_,?_,λr y LV av I aA aN=>⟨?_,λa d q=>?_⟩⟩
 ·rw[fK];rcases d with rfl|⟨z,v,h,u,d⟩
  ·exact H.fh s
  ·rw[X]at v;simp only[au]at v;subst v;rcases U h u with u|rfl
   ·have:=O a (.inr ⟨_,n,h,by grind [T.cells,fF],d⟩);have:c.size<=f.size:=w.ok.sz;omega
   grind
 ·exact G.mono λa d=>by rw[dN s,aq (M a d).1]
 ·refine I.mono λa d=>?_;have⟨_,_,_,_,j,_⟩:=I.box d;have S:a≠b:=λq=>by subst q;rw[n]at j;grind
  rw[dN s,aq S]
  grind
 grind
section
variable {P:ai}{cx:Ctx}{tb:fJ}{mask:Nat}
def acA{c:aj}{a:li}{b:List T}{d:H}{l:af Oper}{j:aa Tmp}{k:List Oper}{n m:fW}{i:iS}(o:a.Ok P cx c)(ht:tb.h c=some a)(p:a.pre b d)
 (r:∀g f,a.post b d g f->XK (some (g,f)) cx (qZ P cx tb) mask l j k n m i):XK (hl P cx tb c b d) cx (qZ P cx tb) mask l j k n m i:=by
 have⟨g,f,e,q⟩:=FU ht o p;rw[e];grind
def Yx{d:aj}{b:li}{c:List T}{a:H}{q:af Oper}{j:List (Nat×Nat)}{k:aa Tmp}{p:Op}{n:List Oper}{m:Nat}{o:List (Nat×Nat)}{l:List (Nat×H×H)}{s r:fW}{i:iS}(t:b.Ok P cx d)(ht:tb.h d=some b)(u:b.pre c a)
 (w:∀g f,b.post c a g f->Sb (some (g,f)) cx (qZ P cx tb) mask q j k p n m o l s r a i):Sb (hl P cx tb d c a) cx (qZ P cx tb) mask q j k p n m o l s r a i:=by
 have⟨g,f,e,v⟩:=FU ht t u;rw[e];grind
def hlB{c:aj}{d:li}(m:d.Ok P cx c)(n:∀b a g f,d.post b a g f->f=a/\FS g):∃k:List T->H->Bool,∀{tb:fJ},tb.h c=some d->∀b a,d.pre b a->hl P cx tb c b a=some (.bool (k b a),a):=by
 let i:fJ:=⟨λ_=>none,λ_=>some d⟩
 refine⟨λb a=>match hl P cx i c b a with|some (.bool j,_)=>j|_=>false,λ{tb} ht b a o=>?_⟩;have l:hl P cx tb c b a=hl P cx i c b a:=by unfold hl;rw[ht]
 have⟨g,f,e,p⟩:=FU (tb:=i) rfl m o;obtain⟨rfl,j,rfl⟩:=n _ _ _ _ p;rw[l]
 grind
def hlI{c:aj}{d:li}(m:d.Ok P cx c)(n:∀b a g f,d.post b a g f->f=a/\FR g):∃k:List T->H->Int,∀{tb:fJ},tb.h c=some d->∀b a,d.pre b a->hl P cx tb c b a=some (.int .i64 (k b a),a):=by
 let i:fJ:=⟨λ_=>none,λ_=>some d⟩
 refine⟨λb a=>match hl P cx i c b a with|some (.int _ j,_)=>j|_=>0,λ{tb} ht b a o=>?_⟩;have l:hl P cx tb c b a=hl P cx i c b a:=by unfold hl;rw[ht]
 have⟨g,f,e,p⟩:=FU (tb:=i) rfl m o;obtain⟨rfl,j,rfl⟩:=n _ _ _ _ p;rw[l]
 grind
end
def md(b a:H):H:=⟨a.size,if a.low<b.low then a.low else b.low,a.fH⟩
def fV(c b:H)(a:Nat):(md c b).get a=b.get a:=H.rR b _ a
@[simp]def ut (b a:H):(md b a).size=a.size:=id rfl
def il.out{c:Nat}{b:H}(a:il c b)(h:H):il c (md h b):=⟨a.hp,by have:=a.low;unfold md;simp only;split<;>omega,a.sz⟩
def Step.out{c:Nat}{h a:H}(b:Step c (TI.hr h) a):Step c h (md h a):=b.hr.Ls (fV h a) rfl ⟨(b.ok.out h).hp,(b.ok.out h).low,ax _⟩
def Gr.out{a:H}{d:T}{c:Nat}{b:List T}(g:Gr a d c b)(h:H):Gr (md h a) d c b:=g.mono λf _=>fV h a f
def jM(ι:Type)(pre:ι->List T->H->Prop)(post:ι->List T->H->T->H->Prop):li:=⟨λa b=>∃c,pre c a b,λa b f d=>∀c,pre c a b->post c a b f d⟩
section
variable {P:ai}{cx:Ctx}{mask:Nat}{ι:Type}{pre:ι->List T->H->Prop}{post:ι->List T->H->T->H->Prop}
def jB{tb:fJ}(I:P.follows .mixedOrders=true)(jq:jg P cx){s:aj}{d:Func}{r:DL}(k:EI P cx s d mask r)(l:List T->H->Nat)(K:∀c p a,pre c p a->p.length<=d.ntmps)
 (Q:∀c b a,pre c b a->∀y,mV y 0 b->W (jy cx (qZ P cx tb) (l b a) mask r (d.body.getD .skip) ⟨y,.nil⟩ (hr a)) (zu cx mask d.results.toList λn C=>post c b a (jP n) (md a C))):(jM ι pre post).Ok P cx s:=by
 intro b a ⟨S,L⟩;have w:∀c,pre c b a->∃i h,tL cx (qZ P cx tb) (l b a) d mask true b a=some (i,h)/\post c b a i h:=by
  intro c j;have⟨x,O,_,E⟩:=mO mask d.ntmps 0 b (K c b a j);have⟨X,e,t,g,R,n,M,m⟩:=ED (Q c b a j x E);have g:=qI _ k.dr _ _ _ g;have⟨A,f⟩:=Af k.ok;rw[f]at g;refine⟨_,_,?_,m⟩;unfold tL;rw[f];obtain⟨o,v,q⟩:=a;simp only;rw[O,ed];have g:kc cx (qZ P cx tb) (l b ⟨o,v,q⟩) mask A ⟨x,.nil⟩ ⟨o,o,q⟩=some (X,e,t):=g;rw[g,ed,lY];have N:=oU M;have G:=wE v (jP n) t;rcases R with rfl|rfl<;>(simp only;rw[N,ed];exact G)
 have⟨i,h,u,_⟩:=w S L;refine⟨i,h,λc j=>?_,λz V Y B U D=>pM (F:=⟨d,mask,true,none⟩) I jq k.at_ k.ok _ (Ep P cx tb) (l b a) b a i h u z V Y B U D⟩;have⟨al,ae,f,m⟩:=w c j;rw[u]at f;simp only[au,aD]at f;rw[f.1,f.2];exact m
def iC{tb:fJ}{f:aj}{d:List T}{g:H}{m:af Oper}{j:aa Tmp}{l:List Oper}{o n:fW}{i:iS}(p:(jM ι pre post).Ok P cx f)(ht:tb.h f=some (jM ι pre post))(b:ι)(k:pre b d g)
 (r:∀c a,post b d g c a->XK (some (c,a)) cx (qZ P cx tb) mask m j l o n i):XK (hl P cx tb f d g) cx (qZ P cx tb) mask m j l o n i:=
 acA p ht ⟨b,k⟩ λc a q=>r c a (q b k)
def mF{tb:fJ}{g:aj}{f:List T}{a:H}{r:af Oper}{j:List (Nat×Nat)}{k:aa Tmp}{q:Op}{o:List Oper}{n:Nat}{p:List (Nat×Nat)}{l:List (Nat×H×H)}{t s:fW}{i:iS}(u:(jM ι pre post).Ok P cx g)(ht:tb.h g=some (jM ι pre post))(c:ι)(m:pre c f a)
 (w:∀d b,post c f a d b->Sb (some (d,b)) cx (qZ P cx tb) mask r j k q o n p l t s a i):Sb (hl P cx tb g f a) cx (qZ P cx tb) mask r j k q o n p l t s a i:=
 Yx u ht ⟨c,m⟩ λd b v=>w d b (v c m)
def Al(g:ι->Nat){f:aj}(step:∀c,(jM ι (λa d b=>pre a d b/\g a<c) post).Ok P cx f->(jM ι (λa d b=>pre a d b/\g a<c+1) post).Ok P cx f)(c:Nat):(jM ι (λa d b=>pre a d b/\g a<c) post).Ok P cx f:=by
 induction c with
 |zero=>intro h b ⟨a,_,i⟩;omega
 |succ c j=>simp_all
end
def Co{d j q:Nat}{n:Bool}{c:H}{l cells':List T}(w:il 0 c)(y:∀b,Fp c d b->b<c.size)(g:c.get d=some ⟨j,0,q,n,false,[.agg l]⟩)(t:∀a∈cells',a∈l\/dT a=none\/∃p∈l,dT a=dT p):
 ∀h,h=(⟨j,0,q+1,n,false,[.agg cells']⟩:iY)->Step d c (dZ c d h)/\(∀b,Fp (dZ c d h) d b->b<(dZ c d h).size)/\(dZ c d h).get d=some h/\∀a i m,Gr c a i m->i≠j->Gr (dZ c d h) a i m:=by
 rintro h rfl;have u:∀a∈cells',∀b,dT a=some b->Fp c d b:=λa o b f=>by
  rcases t a o with k|k|⟨p,A,k⟩
  ·exact .inr ⟨_,g,a,by grind [T.cells,fF],f⟩
  ·rw[k]at f;grind
  ·exact .inr ⟨_,g,p,by grind [T.cells,fF],by rw[<-k];exact f⟩
 have x:=Step.put w g ⟨j,0,q+1,n,false,[.agg cells']⟩ (λa o b f=> .inl (u a (by grind [T.cells,fF]) b f));refine⟨x,λb f=>?_,by rw[dN g,ar rfl],λa i m r z=>r.mono λb s=>?_⟩
 ·rw[fK];rcases f with rfl|⟨B,v,a,o,f⟩
  ·exact H.fh g
  ·rw[dN g,ar rfl]at v
   grind [au,T.cells,fF]
 ·have⟨_,_,_,_,f,_⟩:=r.box s;rw[dN g,aq (λk=>by subst k;rw[g]at f;grind)]
def Yv(c:H)(d:Nat)(a:T×aa (Nat×List T)):Prop:=match a.2 with
 |none=>dT a.1=none
 |some b=>Gr c a.1 b.1 b.2/\b.1≠d
structure ny(h:H)(w szw ver:Nat)(F:List (T×aa (Nat×List T))):Prop where
 ok:il 0 h
 get:h.get w=some ⟨szw,0,ver,true,false,[.agg (F.map (·.1))]⟩
 TK:∀f∈F,Yv h szw f
 VI:∀(j k:Nat),j≠k->∀a b,F[j]? =some a->F[k]? =some b->∀c,dT a.1=some c->dT b.1≠some c
def ny.lt{a:H}{b f g:Nat}{c:List (T×aa (Nat×List T))}(d:ny a b f g c):b<a.size:=H.fh d.get
def ny.fp{b:H}{h m n:Nat}{i:List (T×aa (Nat×List T))}(d:ny b h m n i):∀a,Fp b h a->a<b.size:=by
 rintro a (rfl|⟨p,c,o,g,f⟩)
 ·exact d.lt
 rw[d.get]at c;simp only[au]at c;subst c;simp only[fF,cN,cZ,bQ,T.cells]at g;obtain⟨j,k,rfl⟩:=List.mem_map.1 g;have:=d.TK j k;unfold Yv at this;split at this
 ·rw[this]at f;grind
 ·have⟨_,_,_,_,l,_⟩:=this.1.box f;exact H.fh l
def ny.gr{c:H}{l j k:Nat}{a:List (T×aa (Nat×List T))}(i:ny c l j k a){f:T}{d:Nat}{b:List T}(h:Nat)(g:a[h]? =some (f,some (d,b))):Gr c f d b:=(i.TK _ (ay g)).1
def ny.Cu{c:H}{d i j:Nat}{a:List (T×aa (Nat×List T))}(h:ny c d i j a){f:T×aa (Nat×List T)}(k:f∈a){b:Nat}(g:dT f.1=some b):Fp c d b:= .inr ⟨_,h.get,f.1,by simp only[fF,cN,cZ,bQ,T.cells];grind,g⟩
def ny.step{d f:H}{c j k:Nat}{g:List (T×aa (Nat×List T))}(b:ny d c j k g)(n:il 0 f)(i:∀a,Fp d c a->f.get a=d.get a):ny f c j k g:=by
 refine⟨n,by rw[i c (.inl rfl)];exact b.get,λl h=>?_,b.VI⟩;have:=b.TK l h;unfold Yv at this|-;split at this
 ·omega
 ·exact⟨this.1.mono λa m=>i a (b.Cu h m),this.2⟩
theorem ny.cons{c:H}{w d f:Nat}{b:List (T×aa (Nat×List T))}(a:ny c w d f b)(g:iY):ny (c.cons g) w d f b:=a.step (a.ok.cons g) λh i=>by rw[dS,aq (by have:=a.fp h i;omega)]
def ny.qx{b:H}{c h i:Nat}{d:List (T×aa (Nat×List T))}(f:ny b c h i d){a:Nat}{m:iY}(g:Lb c b a m)(j:iY):ny (dZ b a j) c h i d:=f.step (f.ok.put a j) λn k=>by rw[dN g.get,aq (λl=>g.nf (by rw[<-l];exact k))]
def ny.aaO{o b:H}{a d n m:Nat}{f:List (T×aa (Nat×List T))}(p:ny o a d n f)(i:T×aa (Nat×List T)){j:iY}(x:j=⟨d,0,n+1,true,false,[.agg ((f.set m i).map (·.1))]⟩)(t:b.get a=o.get a)(z:il 0 b)
 (A:Yv (dZ b a j) d i) (B:∀(c:Nat) h,c≠m->f[c]? =some h->Yv (dZ b a j) d h/\(∀g,dT i.1=some g->dT h.1≠some g)):ny (dZ b a j) a d (n+1) (f.set m i):=by
 have w:=t.trans p.get;refine⟨z.put _ _,by rw[dN w,ar rfl,x],λh s=>?_,λc y v q r k l g=>?_⟩
 ·have⟨c,u⟩:=cF s;rw[bV]at u
  grind
 ·rw[bV]at k l;split at k
  ·grind
  ·split at l
   ·grind
   ·exact p.VI c y v q r k l g
def ny.app{j d:H}{c l m k:Nat}{b:List (T×aa (Nat×List T))}(a:ny j c l m b){s t:T}{F o:List T}(g:Nat)(q:b[g]? =some (s,some (k,F)))(v:Xt j s k o t d):
 d.get c=some ⟨l,0,m,true,false,[.agg (b.map (·.1))]⟩/\fk j d c=true/\∀h,h=(⟨l,0,m+1,true,false,[.agg ((b.set g (t,some (k,o))).map (·.1))]⟩:iY)->Step c j (dZ d c h)/\ny (dZ d c h) c l (m+1) (b.set g (t,some (k,o))):=by
 have p:=a.TK _ (ay q);have L:(b.map (·.1))[g]? =some s:=by rw[aS,q];rfl
 have⟨r,U⟩:=xm a.ok a.fp a.get L p.2 p.1 v;refine⟨r.trans a.get,fG r,λh z=>?_⟩;have⟨V,i,I,Q⟩:=U h (by rw[z,br]);have R:il 0 d:=by obtain⟨_,_,_,A⟩:=v;exact⟨A.hp,A.low,ax _⟩
 refine⟨V,a.aaO _ z r R ⟨I,p.2⟩ λO i N w=>?_⟩;have y:=ay w;have f:=a.TK i y;have M:i.1∈b.map (·.1):=List.mem_map_of_mem y;obtain⟨u,G⟩:=i;cases G with
 |none=>exact⟨f,λW _ S=>by rw[show dT u=none from f]at S;grind⟩
 |some B=>
  have⟨D,E⟩:=Q u B.1 B.2 M f.1 (λC K=>a.VI g O (aY N) _ _ q w C K) f.2;exact⟨⟨D,f.2⟩,E⟩
def ny.aep{f:H}{c l m:Nat}{b:List (T×aa (Nat×List T))}(a:ny f c l m b)(h:Nat){v':T}(j:dT v'=none)(x:∃p,b[h]? =some (p,none)):
 ∀d,d=(⟨l,0,m+1,true,false,[.agg ((b.set h (v',none)).map (·.1))]⟩:iY)->Step c f (dZ f c d)/\ny (dZ f c d) c l (m+1) (b.set h (v',none)):=by
 intro d o;have⟨u,i,w,t⟩:=Co a.ok a.fp a.get (cells':=(b.set h (v',none)).map (·.1)) (λp n=>by
  grind) d o
 refine⟨u,a.aaO _ o rfl a.ok j λz i y s=>?_⟩;have n:=ay s;have g:=a.TK i n;obtain⟨v,r⟩:=i;cases r with
 |none=>exact⟨g,λq k=>by rw[show dT v'=none from j]at k;grind⟩
 |some A=>exact⟨⟨t _ _ _ g.1 g.2,g.2⟩,λq k=>by rw[show dT v'=none from j]at k;grind⟩
def ny.elem{l:H}{u K L c h j q:Nat}{k:Bool}{r:List T}{d:List (T×aa (Nat×List T))}(a:ny l u K L d){o:T}{s:List T}(i:Nat)(B:d[i]? =some (o,some (c,s)))(m:dT o=some h)(b:l.get h=some ⟨c,j,q,k,false,r⟩)(g:Nat)(x:T):
 Step u l (dZ l h ⟨c,j,q+1,k,false,r.set g x⟩)/\ny (dZ l h ⟨c,j,q+1,k,false,r.set g x⟩) u K L (d.set i (o,some (c,s.set g x))):=by
 have y:=a.TK _ (ay B);have F:h≠u:=λI=>by subst I;rw[a.get]at b;simp at b;exact y.2 b.1.symm
 have av:=Step.aaU a.ok b (a.Cu (ay B) m) F ⟨c,j,q+1,k,false,r.set g x⟩;have an:(d.set i (o,some (c,s.set g x))).map (·.1)=d.map (·.1):=by
  rw[br];simp only;apply cB;intro n;rw[bV]
  grind
 refine⟨av,a.ok.put _ _,by rw[dN b,aq (aY F),an];exact a.get,λE al=>?_,λn G ap M v W z=>?_⟩
 ·obtain⟨n,f⟩:=cF al;rw[bV]at f;split at f
  ·split at f
   ·simp only[au]at f;subst f;refine⟨?_,y.2⟩;rcases y.1 with⟨rfl,t⟩|⟨O,aA,aX,aE,a6,rfl,t,V⟩
    ·simp at m
    ·simp only[A2,au]at m;subst m;rw[b]at t;simp only[au,iY.mk.injEq]at t;obtain⟨_,rfl,rfl,rfl,_,rfl⟩:=t;exact .inr ⟨O,j,q+1,k,r.set g x,by rw[cR],by rw[dN b,ar rfl],by rw[cR,List.take_set,V]⟩
   grind
  ·rename_i I;have A:=a.TK E (ay f);obtain⟨aN,U⟩:=E;cases U with
   |none=>exact A
   |some p=>exact⟨A.1.mono λv z=>by rw[dN b,aq (λe=>by subst e;exact a.VI i n J _ _ B f v m z)],A.2⟩
 ·have:∀(C:Nat) (w:T×aa (Nat×List T)),(d.set i (o,some (c,s.set g x)))[C]? =some w->∃D,d[C]? =some D/\D.1=w.1:=by
   intro C w ae;rw[bV]at ae
   grind
  obtain⟨N,X,R⟩:=this n M W;obtain⟨Q,Y,S⟩:=this G v z;rw[<-R,<-S];exact a.VI n G ap N Q X Y
def Gr.fz{b:H}{f:T}{k:Nat}{h:Type}{a:h->T}{c:List h}(d:Gr b f k (c.map a))(j:∀g,xS b 11 (a g)=some (a g)):TI.fz b f=some (sl (c.map a)):=by
 have:=d.rS j;rcases d with⟨rfl,i⟩|⟨l,m,q,n,r,rfl,o,p⟩
 ·rw[i];rfl
 simp_all
def Xt.out{h b:H}{d f:T}{c:Nat}{a:List T}(g:Xt (TI.hr h) d c a f b):Xt h d c a f (md h b):=by
 obtain⟨a1,a2,a3,a4⟩:=g;exact⟨a1.out h,λi j k=>by rw[fV,a2 i j k,ik],a3,(a4.out h).hp,(a4.out h).low,a4.sz⟩
def Gr.mn{cx:Ctx}{b:H}{j:T}{a:Nat}{k:Type}{f:k->T}{h:List k}(s:Gr b j a (h.map f))(o:il 0 b){i l:ab}{p d:Ty}(m:cx.ty i=some p)(n:p.u= .slice l)(t:cx.ty l=some d)(y:d.size=a)(v:1<=d.bytes)(w:∀x,L9 (f x)=a)(x:k)(z:(h.length+1)*d.bytes<=70368744177664):
 ∃g c,iU cx (b.cons ⟨a,0,0,true,false,[f x]⟩) i i j (.arr b.size 0 0 1 false)=some (.val g c)/\Xt b j a ((h++[x]).map f) g c:=by
 have q:=(Xt.refl s o).cons ⟨a,0,0,true,false,[f x]⟩;have⟨g,c,e,r⟩:=Gr.app (cx:=cx) q.1 (o.cons _) (x:= .arr b.size 0 0 1 false) (xs:=[f x]) m n t m n y v (by rw[ig];simp) (by simpa using show(f x).cells.length=a from w x) dy (by grind);exact⟨g,c,e,by rw[List.map_append];exact q.trans r.xt⟩
end
def ny.start{h:H}{w szw ver:Nat}{F:List (T×aa (Nat×List T))}(o:il 0 h)(g:h.get w=some ⟨szw,0,ver,true,false,[.agg (F.map (·.1))]⟩)
 (f:∀a∈F,(a.2=none/\dT a.1=none)\/(a.1= .dK [] false/\∃e,a.2=some (e,[])/\e≠szw)):ny h w szw ver F/\∀c,Fp h w c->c=w:=by
 have i:∀a∈F,dT a.1=none:=λa h=>by
  rcases f a h with k|k
  ·exact k.2
  ·rw[k.1];rfl
 refine⟨⟨o,g,λa h=>?_,λs k _ l c m r q b=>by rw[i l (ay m)]at b;simp at b⟩,λc b=>?_⟩
 ·obtain⟨p,t⟩:=a;rcases f _ h with⟨rfl,k⟩|⟨rfl,e,rfl,k⟩
  ·exact k
  ·exact⟨Gr.nil _ _,k⟩
 ·rcases b with rfl|⟨u,d,p,j,b⟩
  ·rfl
  ·rw[g]at d;simp only[au]at d;subst d;simp only[fF,cN,cZ,bQ,T.cells]at j;obtain⟨a,n,rfl⟩:=List.mem_map.1 j;rw[i a n]at b;simp at b
def ny.other{b e:H}{d l m g:Nat}{i:List (T×aa (Nat×List T))}(h:ny b d l m i)(j:∀a,Fp b d a->¬Fp b g a)(f:Step g b e):ny e d l m i/\∀a,Fp e d a->¬Fp e g a:=by
 have k:∀a,Fp b d a->e.get a=b.get a:=λa c=>f.get a (h.fp a c) (j a c);refine⟨h.step ⟨f.ok.hp,f.ok.low,ax _⟩ k,λa c n=>?_⟩;rw[iT (k d (.inl rfl))]at c;rcases f.fp a n with q|q
 ·exact j a c q
 ·have:=h.fp a c;omega
structure Sm(b:Nat)(h h':H):Prop where
 ok:il 0 h'
 size:h'.size=h.size
 get:∀c,c≠b->h'.get c=h.get c
def Sm.refl{b:Nat}{a:H}(c:il 0 a):Sm b a a:=⟨c,rfl,λ_ _=>rfl⟩
theorem Sm.put{a:Nat}{e b:H}(d:Sm a e b){x:iY}(h:b.get a=some x)(g:iY):Sm a e (dZ b a g):=⟨d.ok.put a g,by rw[fK];exact d.size,λc f=>by rw[dN h,aq f];exact d.get c f⟩
def Sm.iv{d:Nat}{h e:H}{a g ver:Nat}{b:List (T×aa (Nat×List T))}(f:Sm d h e)(k:ny h a g ver b)(i:¬Fp h a d):ny e a g ver b:=k.step f.ok λc j=>f.get c λl=>i (by rw[<-l];exact j)
def iM.ft{b c:H}{V V':Nat->Prop}{d:Nat}{e f:List T}(g:iM (FT b V d) e f)(h:∀a,V a->V' a/\c.get a=b.get a):iM (FT c V' d) e f:=g.imp λ_ _ i=>i.mono h
def Gr.KF{a:H}{V:Nat->Prop}{g:T}{l d:Nat}{b c:List T}(f:Gr a g l b)(h:d<=11)(e:iM (FT a V d) b c):TI.fz a g=some (sl c):=by
 have j:fQ (xS a 11) b=some c:=qC (e.imp λ_ _ k=>(k.deep h).xS);have i:=f.jw;rcases f with⟨rfl,rfl⟩|⟨m,n,r,o,s,rfl,p,q⟩
 ·cases e;rfl
 ·rw[wK,i,ed,j];rfl
section
def iM.left{a f:Type}{b:a->f->Prop}{d:List a}{j:List f}(h:iM b d j){e:a}(c:e∈d):∃k,b e k:=by
 induction h with
 |nil=>simp at c
 |cons g _ i=>
  rcases List.mem_cons.1 c with rfl|q
  ·exact⟨_,g⟩
  ·exact i q
def FT.fzN{a:H}{z:Nat->Prop}{h:Nat}(E:∀c,z c->h<=c):∀{b:Nat} {j y:T},FT a z b j y->freeze a h b j=freeze a 0 b j:=by
 intro b;induction b with
 |zero=>intro j y v;exact v.elim
 |succ b C=>
  intro j y v;rcases v with⟨A,B,rfl⟩|⟨c,l,i,g,s,n,r,rfl,F,f,t,rfl⟩|⟨p,M,rfl,t,rfl⟩
  ·rw[tJ a h b j A B,tJ a 0 b j A B]
  ·have u:fQ (freeze a h b) n=fQ (freeze a 0 b) n:=nH λk w=>by
    have⟨L,x⟩:=t.left w;exact C x
   have D:∀q,freeze a q (b+1) (.arr c l i g s)=gJ (Nat.ble q c) (dV (a.get c) λk=>iY.casesOn k λ_ m _ exact o e=>
    gJ (Nat.beq m l) (Bool.casesOn o (dV (dV (j4 i e) λd=>takeN g d) λn=>dV (fQ (freeze a q b) n) λr=>
     List.casesOn r (List.casesOn e (Bool.casesOn exact (some .gX) (some (.dK [] false))) λ_ _=>some .gX) λ_ _=>some (.dK r s)) none)):=λq=>rfl
   rw[D,D];have I:a.jw (.arr c l i g s)=dV (a.get c) λk=>iY.casesOn k λ_ m _ _ o e=>gJ (Nat.beq m l) (Bool.casesOn o (dV (j4 i e) λd=>takeN g d) none):=rfl;rw[I]at f;rw[show Nat.ble h c=true from bR (E c F),show Nat.ble 0 c=true from bR (ax c)];show(dV (a.get c) _)=(dV (a.get c) _);cases G:a.get c with
   |none=>rfl
   |some k=>
    rw[G]at f;obtain⟨O,m,Q,N,o,e⟩:=k;simp only[ed]at f|-;cases K:Nat.beq m l with
    |false=>rfl
    |true=>
     rw[K]at f;cases o with
     |true=>rfl
     |false=>
      have f:(dV (j4 i e) λd=>takeN g d)=some n:=f;show(dV (dV (j4 i e) λd=>takeN g d) _)=(dV (dV (j4 i e) λd=>takeN g d) _);rw[f,ed,ed,u]
  ·have u:fQ (freeze a h b) p=fQ (freeze a 0 b) p:=nH λk w=>by
    have⟨L,x⟩:=t.left w;exact C x
   show(dV (fQ (freeze a h b) p) _)=(dV (fQ (freeze a 0 b) p) _);rw[u]
def FT.top{b:H}{V:Nat->Prop}{h d:Nat}(F:d<=11)(q:∀a,V a->h<=a){c f:List T}(r:iM (FT b V d) c f):∃i,jn b h (.agg c)=some i/\cn i= .agg f:=by
 have u:fQ (iP b h) c=fQ (iP b 0) c:=nH λA x=>by
  have⟨G,s⟩:=r.left x;have l:=(s.deep (show d<=12 by omega)).fzN q;rcases(s.deep (show d<=12 by omega))with⟨m,n,rfl⟩|⟨a,j,p,o,k,C,D,rfl,w,E,v,rfl⟩|⟨c,f,rfl,v,rfl⟩
  ·cases A<;>first|exact l|(simp[j2]at m)
  ·have t:∀e,iP b e (.arr a j p o k)=(Bool.casesOn (Nat.ble e a) (some (.arr a j p o k)) (freeze b e 12 (.arr a j p o k)):aa T):=λe=>rfl;rw[t,t,show Nat.ble h a=true from bR (q a w),show Nat.ble 0 a=true from bR (ax a),l]
  ·exact l
 have g:rS b (.agg c)=some (.agg f):=by
  rw[LR,qC (r.imp λB a e=>(e.deep (show d<=12 by omega)).fz)];rfl
 have g:(dV (dV (fQ (iP b 0) c) λy=>some (T.agg y)) λz=>some (cn z))=some (.agg f):=g;rw[<-u]at g;have⟨i,m,n⟩:=dI.1 g;simp only[au]at n;exact⟨i,m,n⟩
def Lb.kT{b:Nat}{c d:H}{a:Nat}{f:iY}(e:Lb b c a f)(h:d.get b=c.get b)(g:d.get a=c.get a):Lb b d a f:=⟨by rw[g];exact e.get,by rw[iT h];exact e.nf⟩
def u9(a b:H):H:=⟨a.size,(md a b).low,(md a b).fH.drop ((md a b).size-a.size)⟩
def z9{h a:H}(d:Hp a)(e:h.size<=a.size){b:Nat}(c:b<h.size):(u9 h a).get b=a.get b:=
 (IR (h:=md h a) (by unfold Hp at*;exact d) e c).trans (fV h a b)
def il.cut{a b:H}(c:il 0 a)(d:Hp b)(e:a.size<=b.size):il 0 (u9 a b):=
 ⟨by unfold Hp at*;unfold u9 md;simp;omega,by have:=c.low;unfold u9 md;simp only;split<;>omega,ax _⟩
def yK(a:H)(f:T)(b:H)(post:T->H->Prop):Prop:=
 Hp b/\a.size<=b.size/\(∀c e,c<a.size->b.get c=some e->b.get c=a.get c\/∀g∈fF e.fg,pZ a.size g)/\∃d,jn b a.size f=some d/\post (cn d) (u9 a b)
section
variable {P:ai}{cx:Ctx}{mask:Nat}{ι:Type}{pre:ι->List T->H->Prop}{post:ι->List T->H->T->H->Prop}
def rC{tb:fJ}(U:P.follows .mixedOrders=true)(jq:jg P cx){m:aj}{g:Func}{t:DL}(j:EI P cx m g mask t)(k:List T->H->Nat)(V:∀d q a,pre d q a->q.length<=g.ntmps)
 (ap:∀d b a,pre d b a->∀C,mV C 0 b->W (jy cx (qZ P cx tb) (k b a) mask t (g.body.getD .skip) ⟨C,.nil⟩ (hr a)) (zu cx mask g.results.toList λo M=>yK a (jP o) M (post d b a))):(jM ι pre post).Ok P cx m:=by
 intro b a ⟨aA,X⟩;have A:∀d,pre d b a->∃h c,tL cx (qZ P cx tb) (k b a) g mask true b a=some (h,md a c)/\yK a h c (post d b a):=by
  intro d i;have⟨B,an,_,O⟩:=mO mask g.ntmps 0 b (V d b a i);have⟨x,K,c,e,av,o,ae,Y⟩:=ED (ap d b a i B O);have e:=qI _ j.dr _ _ _ e;have⟨G,f⟩:=Af j.ok;rw[f]at e;refine⟨_,c,?_,Y⟩;unfold tL;rw[f];obtain⟨p,z,r⟩:=a;simp only;rw[an,ed];have e:kc cx (qZ P cx tb) (k b ⟨p,z,r⟩) mask G ⟨B,.nil⟩ ⟨p,p,r⟩=some (x,K,c):=e;rw[e,ed,lY];have al:=oU ae;have S:=wE z (jP o) c;rcases av with rfl|rfl<;>(simp only;rw[al,ed];exact S)
 have⟨h,c,u,aE,aN,aX,a6,l,a8⟩:=A aA X;have Q:p8 P cx ⟨m,b,a,h,md a c⟩:=λE w a7 I s N=>pM (F:=⟨g,mask,true,none⟩) U jq j.at_ j.ok _ (Ep P cx tb) (k b a) b a h (md a c) u E w a7 I s N;have R:=I8 Q (by unfold Hp at*;exact aE) aN (λD y f v=>by rw[fV]at v|-;exact aX D y f v) (by rw[tX (fV a c)];exact l);refine⟨cn a6,u9 a c,λd i=>?_,R⟩;have⟨r2,n,f,p1,p2,p3,bi,p4,p5⟩:=A d i;rw[u]at f;simp only[au,aD]at f;obtain⟨rfl,e⟩:=f;have L:jn c a.size h=jn n a.size h:=by rw[<-tX (fV a c),e,tX (fV a n)]
 rw[L,p4]at l;simp only[au]at l;subst l;have:u9 a c=u9 a n:=by unfold u9;rw[e]
 rw[this];exact p5
