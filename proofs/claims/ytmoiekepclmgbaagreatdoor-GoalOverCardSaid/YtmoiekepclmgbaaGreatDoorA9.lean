/- TiObj -/
import Derived.Test.YtmoiekepclmgbaaGreatDoorA8
set_option linter.all false
namespace Go.TI
noncomputable section
section
section
variable {cx:Ctx}{J:Nat}{e:Env}
@[simp]def Z0 (a:ak) (b:Int):pK (.int a b)=some (.int a b):=id rfl
@[simp]def Yu:pK (.slice none 0 0)=some (.ed [] false):=id rfl
@[simp]def ZZ (a:ByteArray):pK (.string a)=some (.str (a.data.toList.map UInt8.toNat)):=R9 (cx:=⟨λ_=>none,λ_=>none,λ_=>none⟩) (J:=0) (e:=⟨.nil,.nil⟩) a
@[simp]def adH (a:List am):ir cx J e (.const (.agg a.toArray))=Z (iu pK a) λb=>some (.agg b):=id rfl
end
@[simp]theorem Uu (a:List T):eG (sl a)=none:=by cases a<;>rfl
@[simp]def oT1 (a:T):kt [a]=a:=id rfl
@[simp]def oT2 (a b:T) (c:List T):kt (a::b::c)= .tuple (a::b::c):=id rfl
@[simp]def oT0:kt []= .tuple []:=id rfl
@[simp]def ahU (a:H):(hr a).low=a.size:=id rfl
@[simp]def Zn (a:H) (d f:jv) (b:Nat) (c:¬b=a.size):fQ (a.cons d) (a.cons f) b=true:=by
 unfold fQ;rw[ez,ez,ao c,ao c];cases a.get b<;>simp
def fZ{h h':H}{b:Nat}(a:h'.get b=h.get b):fQ h h' b=true:=by
 unfold fQ;rw[a];cases h.get b<;>simp
def Fp(d:H)(b a:Nat):Prop:=a=b\/∃c,d.get b=some c/\∃f∈gH c.fR,eG f=some a
structure Step(w:Nat)(h h':H):Prop where
 ok:iE h.size h'
 get:∀b,b<h.size->¬Fp h w b->h'.get b=h.get b
 fp:∀b,Fp h' w b->Fp h w b\/h.size<=b
theorem jt{c d:H}{a:Nat}(f:d.get a=c.get a)(b:Nat):Fp d a b=Fp c a b:=by unfold Fp;rw[f]
def Step.refl{d:Nat}{a:H}(b:iE 0 a):Step d a a:=⟨⟨b.hp,b.low,au _⟩,λ_ _ _=>rfl,λ_ c=> .inl c⟩
def Step.trans{g:Nat}{h d i:H}(a:Step g h d)(c:Step g d i):Step g h i:=by
 refine⟨⟨c.ok.hp,c.ok.low,aQ a.ok.sz c.ok.sz⟩,λb f j=>?_,λb f=>?_⟩
 ·have d:=a.get b f j;have:=a.ok.sz;rw[c.get b D (λk=>(a.fp b k).elim j λk=>absurd k D),d]
 ·rcases c.fp b f with k|k
  ·exact a.fp b k
  ·exact .inr (aQ a.ok.sz k)
structure Lb(w:Nat)(h:H)(b:Nat)(x:jv):Prop where
 get:h.get b=some x
 nf:¬Fp h w b
def Lb.lt{d:Nat}{b:H}{a:Nat}{f:jv}(c:Lb d b a f):a<b.size:=H.fG c.get
def Lb.ne{a:Nat}{c:H}{b:Nat}{g:jv}(f:Lb a c b g):b≠a:=λd=>f.nf (.inl d)
def Lb.step{d:Nat}{f g:H}{b:Nat}{i:jv}(a:Lb d f b i)(h:Step d f g):Lb d g b i:=
 ⟨by rw[h.get b a.lt a.nf];exact a.get,λc=>(h.fp b c).elim a.nf λc=>absurd c (by have:=a.lt;omega)⟩
theorem Step.cons{w:Nat}{a:H}(c:iE 0 a)(i:w<a.size)(b:jv):Step w a (a.cons b):=by
 have f:(a.cons b).get w=a.get w:=by rw[ez,ao D]
 exact⟨⟨(c.cons b).hp,(c.cons b).low,Y⟩,λd h _=>by rw[ez,ao D],λd g=>by rw[jt f]at g;grind⟩
def Lb.new{a:Nat}{h:H}(j:a<h.size)(g:∀b,Fp h a b->b<h.size)(c:jv):Lb a (h.cons c) h.size c:=by
 have i:(h.cons c).get a=h.get a:=by rw[ez,ao D]
 exact⟨Y,λd=>by rw[jt i]at d;have:=g _ d;omega⟩
def Step.qh{c:Nat}{b:H}(k:iE 0 b){a:Nat}{o:jv}(h:Lb c b a o)(d:jv)(g:H)(i:Step c g b)(p:g.size<=a):Step c g (fg b a d):=by
 have m:(fg b a d).get c=b.get c:=by rw[ee h.get,ao (br h.ne)]
 refine⟨⟨(k.put a d).hp,(k.put a d).low,by rw[ig];exact i.ok.sz⟩,λf l n=>?_,λf j=>?_⟩
 ·rw[ee h.get,ao D];exact i.get f l n
 ·rw[jt m]at j;exact i.fp f j
theorem Step.put{b:Nat}{a:H}(i:iE 0 a){x:jv}(h:a.get b=some x)(d:jv)(q:∀j∈gH d.fR,∀f,eG j=some f->Fp a b f\/a.size<=f):Step b a (fg a b d):=by
 refine⟨⟨(i.put b d).hp,(i.put b d).low,by rw[ig];omega⟩,λc o k=>?_,λc g=>?_⟩
 ·rw[ee h,ao (λg=>k (.inl g))]
 ·rcases g with rfl|⟨r,l,j,p,m⟩
  ·exact .inl (.inl rfl)
  ·rw[ee h,aq rfl]at l
   grind
def Step.adv{c:Nat}{b:H}(h:iE 0 b){a:Nat}{m:jv}(f:b.get a=some m)(j:Fp b c a)(l:a≠c)(d:jv):Step c b (fg b a d):=by
 have o:(fg b a d).get c=b.get c:=by rw[ee f,ao (br l)]
 refine⟨⟨(h.put a d).hp,(h.put a d).low,by rw[ig];omega⟩,λi n k=>?_,λi g=>?_⟩
 ·rw[ee f,ao (λg=>k (by rw[g];exact j))]
 grind [jt]
def Step.NB{f:Nat}{g c:H}(d:Step f g c){b:H}(h:∀a,b.get a=c.get a)(m:b.size=c.size)(j:iE 0 b):Step f g b:=
 ⟨⟨j.hp,j.low,by rw[m];exact d.ok.sz⟩,λa k l=>by rw[h];exact d.get a k l,λa i=>by rw[jt (h f)]at i;exact d.fp a i⟩
def YW(b:H)(c a:Nat):Fp (hr b) c a=Fp b c a:=jt (iI b c) a
def Step.hr{f:Nat}{c d:H}(a:Step f (hr c) d):Step f c d:=
 ⟨⟨a.ok.hp,a.ok.low,a.ok.sz⟩,λb g h=>by rw[a.get b g (by rw[YW];exact h),iI],λb i=>by have:=a.fp b i;rw[YW]at this;exact this⟩
def iE.hr{b:Nat}{a:H}(c:iE b a):iE b (hr a):=⟨by rw[aeu];exact c.hp,au _,c.sz⟩
def Gr(h:H)(d:T)(i:Nat)(a:List T):Prop:=
 (d= .ed [] false/\a=[])\/∃b c j g f,d= .arr b c 0 a.length false/\h.get b=some ⟨i,c,j,g,false,f⟩/\f.take a.length=a
theorem Gr.nil(a:H)(b:Nat):Gr a (.ed [] false) b []:= .inl ⟨rfl,rfl⟩
theorem Gr.iN{d:H}{a:T}{f:Nat}{b:List T}(c:Gr d a f b):a.iN=true:=by
 rcases c with⟨rfl,_⟩|⟨g,h,j,i,k,rfl,_⟩<;>rfl
theorem Gr.cells{d:H}{a:T}{f:Nat}{b:List T}(c:Gr d a f b):a.cells=[a]:=by
 rcases c with⟨rfl,_⟩|⟨g,h,j,i,k,rfl,_⟩<;>rfl
def Gr.mono{d h':H}{b:T}{f:Nat}{c:List T}(i:Gr d b f c)(l:∀a,eG b=some a->h'.get a=d.get a):Gr h' b f c:=by
 rcases i with⟨rfl,rfl⟩|⟨a,g,m,h,n,rfl,j,k⟩
 ·exact .inl ⟨rfl,rfl⟩
 ·exact .inr ⟨a,g,m,h,n,rfl,by rw[l a rfl];exact j,k⟩
def Gr.box{g:H}{c:T}{h:Nat}{d:List T}(k:Gr g c h d){b:Nat}(l:eG c=some b):∃a i f j,g.get b=some ⟨h,a,i,f,false,j⟩/\c= .arr b a 0 d.length false:=by
 rcases k with⟨rfl,_⟩|⟨m,a,i,f,j,rfl,n,o⟩
 ·simp at l
 simp_all
def Gr.ne{a:H}{f g:T}{c d:Nat}{h Di:List T}(i:Gr a f c h)(j:Gr a g d Di)(o:c≠d):∀b,eG f=some b->eG g≠some b:=λb k l=>by
 have⟨_,_,_,_,m,_⟩:=i.box k;have⟨_,_,_,_,n,_⟩:=j.box l;rw[m]at n;grind
def Gr.jM{b:H}{c:T}{h:Nat}{a:List T}(d:Gr b c h a):b.jM c=some a:=by
 rcases d with⟨rfl,rfl⟩|⟨j,k,m,l,i,rfl,f,g⟩
 ·rfl
 ·have hl:a.length<=i.length:=by have:=bO List.length g;rw[List.length_take]at this;omega
  rw[iF,f];simp_all
def Gr.len{cx:Ctx}{g:H}{d:T}{h:Nat}{a:List T}(f:Gr g d h a)(b:H)(c:Ty)(i:ab)(o:c.u= .slice i):Gk cx b c d=some (.val (.int .i64 a.length) b):=by
 rcases f with⟨rfl,rfl⟩|⟨j,k,p,l,q,rfl,m,n⟩
 ·simp_all
 simp_all
def Gr.Bf{c:H}{j:T}{h:Nat}{f:List T}(m:Gr c j h f){te:Ty}(p:te.size=h){i:Nat}(o:i<f.length):∃a b k g d,eG j=some a/\lM c te j i=some (.val (.ptr a b i 0) c)/\c.get a=some ⟨h,b,k,g,false,d⟩/\d[i]? =some f[i]:=by
 rcases m with⟨rfl,rfl⟩|⟨a,b,k,g,d,rfl,l,n⟩
 ·grind
 ·refine⟨a,b,k,g,d,rfl,?_,l,?_⟩
  ·rw[TC,l];simp_all
  grind
def Gr.qC{a:H}{d:T}{j:Nat}{h:Type}{f:h->T}{b:List h}(c:Gr a d j (b.map f))(p:∀g,yY a 11 (f g)=some (f g)):TI.qC a d=some (sl (b.map f)):=by
 have q:=c.jM;rcases c with⟨rfl,i⟩|⟨k,l,r,m,s,rfl,n,o⟩
 ·rw[i];rfl
 simp_all
def Gr.cut{cx:Ctx}{b:H}{i:T}{h:Nat}{a:List T}(m:Gr b i h a){ty te:Ty}{f:ab}(p:ty.u= .slice f)(ht:cx.ty f=some te)(t:te.size=h){n:Nat}(c:n<=a.length)(s:0<a.length):
 ∃j,Ji cx b ty i none (some n) none=some (.val j b)/\Gr b j h (a.take n)/\eG j=eG i:=by
 rcases m with⟨rfl,rfl⟩|⟨d,g,q,l,r,rfl,k,o⟩
 ·grind
 ·refine⟨.arr d g 0 n false,Nz ty te f d g 0 a.length n false _ p ht k (by grind) c,.inr ⟨d,g,q,l,r,by rw[List.length_take,cy c],k,?_⟩,rfl⟩;rw[List.length_take,cy c,<-o,List.take_take,cy c]
def Dt(c:H)(h:T)(j:Nat)(g:List T)(k:T)(d:H):Prop:=∃a f l i,k= .arr a f 0 g.length false/\d.get a=some ⟨j,f,l,i,false,g⟩/\
 (eG h=some a\/(eG h=none/\a=c.size))/\(∀b,b≠a->b<c.size->d.get b=c.get b)/\iE c.size d
def Dt.gr{j:H}{l:T}{c:Nat}{a:List T}{d:T}{b:H}(f:Dt j l c a d b):Gr b d c a:=by
 obtain⟨g,h,m,i,rfl,k,_⟩:=f;exact .inr ⟨g,h,m,i,a,rfl,k,aI⟩
def Dt.set{i:H}{m:T}{d b c h:Nat}{f:Bool}{a:List T}{g:H}(o:Dt i m d a (.arr b c 0 a.length false) g)(k:g.get b=some ⟨d,c,h,f,false,a⟩)(l:Nat)(n:T):
 Dt i m d (a.set l n) (.arr b c 0 a.length false) (fg g b ⟨d,c,h+1,f,false,a.set l n⟩):=by
 obtain⟨s,u,y,v,j,w,p,x,q⟩:=o;simp only[T.arr.injEq,and_true]at j;obtain⟨rfl,rfl⟩:=j;exact⟨b,c,h+1,f,by rw[dc],by rw[ee k,aq rfl],p,λt r hl=>by rw[ee k,ao r];grind,q.put _ _⟩
def Gr.app{cx:Ctx}{a:H}{j:T}{f:Nat}{d:List T}(B:Gr a j f d)(k:iE 0 a){p q l:ab}{w y g:Ty}(C:cx.ty p=some w)(E:w.u= .slice l)(F:cx.ty l=some g)(I:cx.ty q=some y)(J:y.u= .slice l)(t:g.size=f)(L:1<=g.bytes)
 {x:T} {xs:List T} (M:a.jM x=some xs) (v:∀e∈xs,e.cells.length=f) (S:xs≠ []) (R:(d.length+xs.length)*g.bytes<=70368744177664):
 ∃z s,jn cx a p q j x=some (.val z s)/\Dt a j f (d++xs) z s:=by
 have K:jn cx a p q j x=j7 (a.append g.size g.bytes j xs):=by
  unfold jn qt nH;rw[C,eJ,I,eJ];simp only[E,F,J,M,eJ];rw[t,lN v,iR]
 rw[K,t];obtain⟨b,c,rfl⟩:∃b c,xs=b::c:=by cases xs with|nil=>grind|cons b c=>simp
 rcases B with⟨rfl,rfl⟩|⟨h,i,r,Q,O,rfl,o,N⟩
 ·refine⟨_,a.cons ⟨f,0,0,false,false,b::c⟩,?_,a.size,0,0,false,rfl,Y,.inr ⟨rfl,rfl⟩,λA m _=>by rw[ez,ao m],(k.cons _).hp,(k.cons _).low,Y⟩;show j7 (a.js f g.bytes [] (b::c))=_;rw[qy v L (by grind)];rfl
 ·refine⟨.arr h (i+1) 0 (d++b::c).length false,fg a h ⟨f,i+1,r+1,false,false,d++b::c⟩,?_,h,i+1,r+1,false,rfl,by rw[ee o,aq rfl],.inl rfl,λA m _=>by rw[ee o,ao m],(k.put _ _).hp,(k.put _ _).low,by rw[ig];omega⟩;show j7 (a.nP f g.bytes h i d.length (b::c))=_;have hl:d.length<=O.length:=by have:=bO List.length N;rw[List.length_take]at this;omega
  have:a.nP f g.bytes h i d.length (b::c)=some (.arr h (i+1) 0 (d++b::c).length false,fg a h ⟨f,i+1,r+1,false,false,d++b::c⟩):=by
   unfold H.nP;rw[o];simp_all[AU,lN,jd,kq,qz,pj,eJ,aT]
  rw[this];rfl
def Xt(b:H)(d:T)(h:Nat)(g:List T)(f:T)(c:H):Prop:=Gr c f h g/\(∀a,a<b.size->eG d≠some a->c.get a=b.get a)/\(∀a,eG f=some a->eG d=some a\/b.size<=a)/\iE b.size c
def Dt.xt{c:H}{g:T}{f:Nat}{b:List T}{h:T}{d:H}(a:Dt c g f b h d):Xt c g f b h d:=by
 have j:=a.gr;obtain⟨m,n,s,e,rfl,o,p,q,k⟩:=a;refine⟨j,λi l r=>?_,λi l=>?_,k⟩
 ·grind
 grind [id,ar,Cx]
def Xt.refl{a:H}{b:T}{f:Nat}{c:List T}(g:Gr a b f c)(d:iE 0 a):Xt a b f c b a:=⟨g,λ_ _ _=>rfl,λ_ h=> .inl h,d.hp,d.low,au _⟩
def Xt.trans{d f g:H}{j k l:T}{c:Nat}{q Di:List T}(m:Xt d j c q k f)(n:Xt f k c Di l g):Xt d j c Di l g:=by
 obtain⟨_,a2,a3,a4⟩:=m;obtain⟨o,p,s,b⟩:=n;have:=a4.sz;refine⟨o,λa h i=>?_,λa h=>?_,b.hp,b.low,aQ a4.sz b.sz⟩
 ·rw[p a D (λr=>(a3 a r).elim i (λt=>by omega)),a2 a h i]
 grind
theorem Xt.cons{c d:H}{g h:T}{f:Nat}{b:List T}(i:Xt c g f b h d)(a:jv):Xt c g f b h (d.cons a):=by
 obtain⟨a1,a2,a3,a4⟩:=i;have:=a4.sz;refine⟨a1.mono λl j=>?_,λm n o=>?_,a3,(a4.cons a).hp,(a4.cons a).low,(a4.cons a).sz⟩
 ·have⟨_,_,_,_,k,_⟩:=a1.box j;have:=H.fG k;rw[ez,ao D]
 ·rw[ez,ao D];grind
def yJ{b:Nat}{c f:H}{k o:T}{x t E i:Nat}{A:Bool}{F:List T}{l:List T}(bp:iE 0 c)(Q:∀a,Fp c b a->a<c.size)(n:c.get b=some ⟨t,0,E,A,false,[.agg l]⟩)(ae:l[i]? =some k)(a6:x≠t)
 {O:List T} (W:Gr c k x O) (S:Xt c k x F o f):f.get b=c.get b/\∀g,g=(⟨t,0,E+1,A,false,[.agg (l.set i o)]⟩:jv)->
  Step b c (fg f b g)/\(∀a,Fp (fg f b g) b a->a<(fg f b g).size)/\Gr (fg f b g) o x F/\
   ∀r y Di,r∈l->Gr c r y Di->(∀a,eG k=some a->eG r≠some a)->y≠t->Gr (fg f b g) r y Di/\∀a,eG o=some a->eG r≠some a:=by
 have al:=H.fG n;have a8:k∈l:=ay ae;obtain⟨J,C,an,R⟩:=S;have X:∀a,eG k=some a->a≠b:=λa d q=>by
  subst q;have⟨_,_,_,_,j,_⟩:=W.box d;rw[n]at j;grind
 have av:Step b c f/\f.get b=c.get b/\(∀a,eG o=some a->a≠b/\(eG k=some a\/c.size<=a))/\(∀a,a≠b->eG k≠some a->a<c.size->f.get a=c.get a):=by
  have L:f.get b=c.get b:=C b al λj=>X b j rfl;refine⟨⟨R,λp m B=>C p m λj=>B (.inr ⟨_,n,k,by grind [T.cells,gH],j⟩),λp m=>by rw[jt L]at m;grind⟩,L,λp m=>⟨?_,an p m⟩,λp _ m hl=>C p hl m⟩
  grind
 obtain⟨w,I,N,bn⟩:=av;refine⟨I,λg bi=>?_⟩;have s:f.get b=some ⟨t,0,E,A,false,[.agg l]⟩:=I.trans n;have Z:(fg f b g).get b=some g:=by rw[ee s,aq rfl]
 have V:∀h∈gH g.fR,h∈l\/h=o:=by
  grind [T.cells,gH,cE]
 have aN:∀h∈l,∀a,eG h=some a->Fp c b a:=λh u a d=> .inr ⟨_,n,h,by grind [T.cells,gH],d⟩;have ap:Step b c (fg f b g):=by
  have M:iE 0 f:=⟨w.ok.hp,w.ok.low,aw _⟩;refine⟨⟨(M.put b g).hp,(M.put b g).low,by rw[ig];exact w.ok.sz⟩,λa d B=>?_,λa d=>?_⟩
  ·rw[ee s,ao (λq=>B (.inl q))];grind
  ·rcases d with rfl|⟨z,v,h,u,d⟩
   ·exact .inl (.inl rfl)
   grind
 have a7:∀a,eG o=some a->a<f.size:=λa d=>by have⟨_,_,_,_,j,_⟩:=J.box d;exact H.fG j
 refine⟨ap,λa d=>?_,?_,λr y Di aA K aE aX=>⟨?_,λa d q=>?_⟩⟩
 ·rw[ig];rcases d with rfl|⟨z,v,h,u,d⟩
  ·exact H.fG s
  ·rw[Z]at v;simp only[ar]at v;subst v;rcases V h u with u|rfl
   ·have:=Q a (.inr ⟨_,n,h,by grind [T.cells,gH],d⟩);have:c.size<=f.size:=w.ok.sz;omega
   grind
 ·exact J.mono λa d=>by rw[ee s,ao (N a d).1]
 ·refine K.mono λa d=>?_;have⟨_,_,_,_,j,_⟩:=K.box d;have U:a≠b:=λq=>by subst q;rw[n]at j;grind
  rw[ee s,ao U]
  grind
 grind
section
variable {P:ai}{cx:Ctx}{tb:gG}{J:Nat}
def ae8{c:aj}{a:mr}{b:List T}{d:H}{l:af Oper}{j:aa Tmp}{k:List Oper}{n m:iz}{i:jp}(o:a.Ok P cx c)(ht:tb.h c=some a)(p:a.pre b d)
 (r:∀g f,a.post b d g f->XK (some (g,f)) cx (sq P cx tb) J l j k n m i):XK (hl P cx tb c b d) cx (sq P cx tb) J l j k n m i:=by
 have⟨g,f,e,q⟩:=Hn ht o p;rw[e];grind
def abh{d:aj}{b:mr}{c:List T}{a:H}{q:af Oper}{j:List (Nat×Nat)}{k:aa Tmp}{p:Op}{n:List Oper}{m:Nat}{o:List (Nat×Nat)}{l:List (Nat×H×H)}{s r:iz}{i:jp}(t:b.Ok P cx d)(ht:tb.h d=some b)(u:b.pre c a)
 (w:∀g f,b.post c a g f->UY (some (g,f)) cx (sq P cx tb) J q j k p n m o l s r a i):UY (hl P cx tb d c a) cx (sq P cx tb) J q j k p n m o l s r a i:=by
 have⟨g,f,e,v⟩:=Hn ht t u;rw[e];grind
def hlB{c:aj}{d:mr}(m:d.Ok P cx c)(n:∀b a g f,d.post b a g f->f=a/\Kr g):∃k:List T->H->Bool,∀{tb:gG},tb.h c=some d->∀b a,d.pre b a->hl P cx tb c b a=some (.bool (k b a),a):=by
 let i:gG:=⟨λ_=>none,λ_=>some d⟩
 refine⟨λb a=>match hl P cx i c b a with|some (.bool j,_)=>j|_=>false,λ{tb} ht b a o=>?_⟩;have l:hl P cx tb c b a=hl P cx i c b a:=by unfold hl;rw[ht]
 have⟨g,f,e,p⟩:=Hn (tb:=i) rfl m o;obtain⟨rfl,j,rfl⟩:=n _ _ _ _ p;rw[l]
 grind
def hlI{c:aj}{d:mr}(m:d.Ok P cx c)(n:∀b a g f,d.post b a g f->f=a/\Hm g):∃k:List T->H->Int,∀{tb:gG},tb.h c=some d->∀b a,d.pre b a->hl P cx tb c b a=some (.int .i64 (k b a),a):=by
 let i:gG:=⟨λ_=>none,λ_=>some d⟩
 refine⟨λb a=>match hl P cx i c b a with|some (.int _ j,_)=>j|_=>0,λ{tb} ht b a o=>?_⟩;have l:hl P cx tb c b a=hl P cx i c b a:=by unfold hl;rw[ht]
 have⟨g,f,e,p⟩:=Hn (tb:=i) rfl m o;obtain⟨rfl,j,rfl⟩:=n _ _ _ _ p;rw[l]
 grind
end
def mK(b a:H):H:=⟨a.size,if a.low<b.low then a.low else b.low,a.gU⟩
def il(c b:H)(a:Nat):(mK c b).get a=b.get a:=H.tO b _ a
@[simp]def wa (b a:H):(mK b a).size=a.size:=id rfl
def iE.out{c:Nat}{b:H}(a:iE c b)(h:H):iE c (mK h b):=⟨a.hp,by have:=a.low;unfold mK;simp only;split<;>omega,a.sz⟩
def Step.out{c:Nat}{h a:H}(b:Step c (TI.hr h) a):Step c h (mK h a):=b.hr.NB (il h a) rfl ⟨(b.ok.out h).hp,(b.ok.out h).low,aw _⟩
def Gr.out{a:H}{d:T}{c:Nat}{b:List T}(g:Gr a d c b)(h:H):Gr (mK h a) d c b:=g.mono λf _=>il h a f
def jY(ι:Type)(pre:ι->List T->H->Prop)(post:ι->List T->H->T->H->Prop):mr:=⟨λa b=>∃c,pre c a b,λa b f d=>∀c,pre c a b->post c a b f d⟩
section
variable {P:ai}{cx:Ctx}{J:Nat}{ι:Type}{pre:ι->List T->H->Prop}{post:ι->List T->H->T->H->Prop}
def jV{tb:gG}(O:P.follows .mixedOrders=true)(jQ:jF P cx){t:aj}{d:Func}{r:DL}(k:F6 P cx t d J r)(l:List T->H->Nat)(Q:∀c p a,pre c p a->p.length<=d.ntmps)
 (X:∀c b a,pre c b a->∀B,nY B 0 b->W (j4 cx (sq P cx tb) (l b a) J r (d.body.getD .skip) ⟨B,.nil⟩ (hr a)) (Bg cx J d.results.toList λn K=>post c b a (kt n) (mK a K))):(jY ι pre post).Ok P cx t:=by
 intro b a ⟨ae,R⟩;have z:∀c,pre c b a->∃i h,u9 cx (sq P cx tb) (l b a) d J true b a=some (i,h)/\post c b a i h:=by
  intro c j;have⟨A,V,_,M⟩:=nQ J d.ntmps 0 b (Q c b a j);have⟨x,e,u,g,Z,n,S,m⟩:=F0 (X c b a j A M);have g:=so _ k.dr _ _ _ g;have⟨E,f⟩:=BB k.ok;rw[f]at g;refine⟨_,_,?_,m⟩;unfold u9;rw[f];obtain⟨o,y,q⟩:=a;simp only;rw[V,eJ];have g:kJ cx (sq P cx tb) (l b ⟨o,y,q⟩) J E ⟨A,.nil⟩ ⟨o,o,q⟩=some (x,e,u):=g;rw[g,eJ,mW];have U:=qf S;have N:=yi y (kt n) u;rcases Z with rfl|rfl<;>(simp only;rw[U,eJ];exact N)
 have⟨i,h,v,_⟩:=z ae R;refine⟨i,h,λc j=>?_,λC w al I s L=>qU (F:=⟨d,J,true,none⟩) O jQ k.at_ k.ok _ (FL P cx tb) (l b a) b a i h v C w al I s L⟩;have⟨ap,an,f,m⟩:=z c j;rw[v]at f;simp only[ar,aB]at f;rw[f.1,f.2];exact m
def jm{tb:gG}{f:aj}{d:List T}{g:H}{m:af Oper}{j:aa Tmp}{l:List Oper}{o n:iz}{i:jp}(p:(jY ι pre post).Ok P cx f)(ht:tb.h f=some (jY ι pre post))(b:ι)(k:pre b d g)
 (r:∀c a,post b d g c a->XK (some (c,a)) cx (sq P cx tb) J m j l o n i):XK (hl P cx tb f d g) cx (sq P cx tb) J m j l o n i:=
 ae8 p ht ⟨b,k⟩ λc a q=>r c a (q b k)
def lH{tb:gG}{g:aj}{f:List T}{a:H}{r:af Oper}{j:List (Nat×Nat)}{k:aa Tmp}{q:Op}{o:List Oper}{n:Nat}{p:List (Nat×Nat)}{l:List (Nat×H×H)}{t s:iz}{i:jp}(u:(jY ι pre post).Ok P cx g)(ht:tb.h g=some (jY ι pre post))(c:ι)(m:pre c f a)
 (w:∀d b,post c f a d b->UY (some (d,b)) cx (sq P cx tb) J r j k q o n p l t s a i):UY (hl P cx tb g f a) cx (sq P cx tb) J r j k q o n p l t s a i:=
 abh u ht ⟨c,m⟩ λd b v=>w d b (v c m)
def yW(g:ι->Nat){f:aj}(step:∀c,(jY ι (λa d b=>pre a d b/\g a<c) post).Ok P cx f->(jY ι (λa d b=>pre a d b/\g a<c+1) post).Ok P cx f)(c:Nat):(jY ι (λa d b=>pre a d b/\g a<c) post).Ok P cx f:=by
 induction c with
 |zero=>intro h b ⟨a,_,i⟩;omega
 |succ c j=>simp_all
end
def DB{d j q:Nat}{n:Bool}{c:H}{l cells':List T}(w:iE 0 c)(y:∀b,Fp c d b->b<c.size)(g:c.get d=some ⟨j,0,q,n,false,[.agg l]⟩)(t:∀a∈cells',a∈l\/eG a=none\/∃p∈l,eG a=eG p):
 ∀h,h=(⟨j,0,q+1,n,false,[.agg cells']⟩:jv)->Step d c (fg c d h)/\(∀b,Fp (fg c d h) d b->b<(fg c d h).size)/\(fg c d h).get d=some h/\∀a i m,Gr c a i m->i≠j->Gr (fg c d h) a i m:=by
 rintro h rfl;have u:∀a∈cells',∀b,eG a=some b->Fp c d b:=λa o b f=>by
  rcases t a o with k|k|⟨p,A,k⟩
  ·exact .inr ⟨_,g,a,by grind [T.cells,gH],f⟩
  ·rw[k]at f;grind
  ·exact .inr ⟨_,g,p,by grind [T.cells,gH],by rw[<-k];exact f⟩
 have x:=Step.put w g ⟨j,0,q+1,n,false,[.agg cells']⟩ (λa o b f=> .inl (u a (by grind [T.cells,gH]) b f));refine⟨x,λb f=>?_,by rw[ee g,aq rfl],λa i m r z=>r.mono λb s=>?_⟩
 ·rw[ig];rcases f with rfl|⟨B,v,a,o,f⟩
  ·exact H.fG g
  ·rw[ee g,aq rfl]at v
   grind [ar,T.cells,gH]
 ·have⟨_,_,_,_,f,_⟩:=r.box s;rw[ee g,ao (λk=>by subst k;rw[g]at f;grind)]
def Fld(c:H)(d:Nat)(a:T×aa (Nat×List T)):Prop:=match a.2 with
 |none=>eG a.1=none
 |some b=>Gr c a.1 b.1 b.2/\b.1≠d
structure nS(h:H)(w szw ver:Nat)(F:List (T×aa (Nat×List T))):Prop where
 ok:iE 0 h
 get:h.get w=some ⟨szw,0,ver,true,false,[.agg (F.map (·.1))]⟩
 Wp:∀f∈F,Fld h szw f
 YI:∀(j k:Nat),j≠k->∀a b,F[j]? =some a->F[k]? =some b->∀c,eG a.1=some c->eG b.1≠some c
def nS.lt{a:H}{b f g:Nat}{c:List (T×aa (Nat×List T))}(d:nS a b f g c):b<a.size:=H.fG d.get
def nS.fp{b:H}{h m n:Nat}{i:List (T×aa (Nat×List T))}(d:nS b h m n i):∀a,Fp b h a->a<b.size:=by
 rintro a (rfl|⟨p,c,o,g,f⟩)
 ·exact d.lt
 rw[d.get]at c;simp only[ar]at c;subst c;simp only[gH,bm,cC,bG,T.cells]at g;obtain⟨j,k,rfl⟩:=List.mem_map.1 g;have:=d.Wp j k;unfold Fld at this;split at this
 ·rw[this]at f;grind
 ·have⟨_,_,_,_,l,_⟩:=this.1.box f;exact H.fG l
def nS.gr{c:H}{l j k:Nat}{a:List (T×aa (Nat×List T))}(i:nS c l j k a){f:T}{d:Nat}{b:List T}(h:Nat)(g:a[h]? =some (f,some (d,b))):Gr c f d b:=(i.Wp _ (ay g)).1
def nS.DG{c:H}{d i j:Nat}{a:List (T×aa (Nat×List T))}(h:nS c d i j a){f:T×aa (Nat×List T)}(k:f∈a){b:Nat}(g:eG f.1=some b):Fp c d b:= .inr ⟨_,h.get,f.1,by simp only[gH,bm,cC,bG,T.cells];grind,g⟩
def nS.step{d f:H}{c j k:Nat}{g:List (T×aa (Nat×List T))}(b:nS d c j k g)(n:iE 0 f)(i:∀a,Fp d c a->f.get a=d.get a):nS f c j k g:=by
 refine⟨n,by rw[i c (.inl rfl)];exact b.get,λl h=>?_,b.YI⟩;have:=b.Wp l h;unfold Fld at this|-;split at this
 ·omega
 ·exact⟨this.1.mono λa m=>i a (b.DG h m),this.2⟩
theorem nS.cons{c:H}{w d f:Nat}{b:List (T×aa (Nat×List T))}(a:nS c w d f b)(g:jv):nS (c.cons g) w d f b:=a.step (a.ok.cons g) λh i=>by rw[ez,ao (by have:=a.fp h i;omega)]
def nS.qh{b:H}{c h i:Nat}{d:List (T×aa (Nat×List T))}(f:nS b c h i d){a:Nat}{m:jv}(g:Lb c b a m)(j:jv):nS (fg b a j) c h i d:=f.step (f.ok.put a j) λn k=>by rw[ee g.get,ao (λl=>g.nf (by rw[<-l];exact k))]
def nS.ado{o b:H}{a d n m:Nat}{f:List (T×aa (Nat×List T))}(p:nS o a d n f)(i:T×aa (Nat×List T)){j:jv}(x:j=⟨d,0,n+1,true,false,[.agg ((f.set m i).map (·.1))]⟩)(t:b.get a=o.get a)(z:iE 0 b)
 (A:Fld (fg b a j) d i) (B:∀(c:Nat) h,c≠m->f[c]? =some h->Fld (fg b a j) d h/\(∀g,eG i.1=some g->eG h.1≠some g)):nS (fg b a j) a d (n+1) (f.set m i):=by
 have w:=t.trans p.get;refine⟨z.put _ _,by rw[ee w,aq rfl,x],λh s=>?_,λc y v q r k l g=>?_⟩
 ·have⟨c,u⟩:=cN s;rw[bR]at u
  grind
 ·rw[bR]at k l;split at k
  ·grind
  ·split at l
   ·grind
   ·exact p.YI c y v q r k l g
def nS.app{j d:H}{c l m k:Nat}{b:List (T×aa (Nat×List T))}(a:nS j c l m b){s t:T}{I o:List T}(g:Nat)(q:b[g]? =some (s,some (k,I)))(v:Xt j s k o t d):
 d.get c=some ⟨l,0,m,true,false,[.agg (b.map (·.1))]⟩/\fQ j d c=true/\∀h,h=(⟨l,0,m+1,true,false,[.agg ((b.set g (t,some (k,o))).map (·.1))]⟩:jv)->Step c j (fg d c h)/\nS (fg d c h) c l (m+1) (b.set g (t,some (k,o))):=by
 have p:=a.Wp _ (ay q);have M:(b.map (·.1))[g]? =some s:=by rw[aR,q];rfl
 have⟨r,V⟩:=yJ a.ok a.fp a.get M p.2 p.1 v;refine⟨r.trans a.get,fZ r,λh z=>?_⟩;have⟨W,i,K,R⟩:=V h (by rw[z,aU]);have S:iE 0 d:=by obtain⟨_,_,_,A⟩:=v;exact⟨A.hp,A.low,aw _⟩
 refine⟨W,a.ado _ z r S ⟨K,p.2⟩ λQ i O w=>?_⟩;have y:=ay w;have f:=a.Wp i y;have N:i.1∈b.map (·.1):=List.mem_map_of_mem y;obtain⟨u,J⟩:=i;cases J with
 |none=>exact⟨f,λX _ U=>by rw[show eG u=none from f]at U;grind⟩
 |some B=>
  have⟨E,F⟩:=R u B.1 B.2 N f.1 (λC L=>a.YI g Q (br O) _ _ q w C L) f.2;exact⟨⟨E,f.2⟩,F⟩
def nS.ag3{f:H}{c l m:Nat}{b:List (T×aa (Nat×List T))}(a:nS f c l m b)(h:Nat){v':T}(j:eG v'=none)(x:∃p,b[h]? =some (p,none)):
 ∀d,d=(⟨l,0,m+1,true,false,[.agg ((b.set h (v',none)).map (·.1))]⟩:jv)->Step c f (fg f c d)/\nS (fg f c d) c l (m+1) (b.set h (v',none)):=by
 intro d o;obtain⟨u,i,w,t⟩:=DB a.ok a.fp a.get (cells':=(b.set h (v',none)).map (·.1)) (λp n=>by
  grind) d o
 refine⟨u,a.ado _ o rfl a.ok j λz i y s=>?_⟩;have n:=ay s;have g:=a.Wp i n;obtain⟨v,r⟩:=i;cases r with
 |none=>exact⟨g,λq k=>by rw[show eG v'=none from j]at k;grind⟩
 |some A=>exact⟨⟨t _ _ _ g.1 g.2,g.2⟩,λq k=>by rw[show eG v'=none from j]at k;grind⟩
def nS.elem{l:H}{u L M c h j q:Nat}{k:Bool}{r:List T}{d:List (T×aa (Nat×List T))}(a:nS l u L M d){o:T}{s:List T}(i:Nat)(B:d[i]? =some (o,some (c,s)))(m:eG o=some h)(b:l.get h=some ⟨c,j,q,k,false,r⟩)(g:Nat)(x:T):
 Step u l (fg l h ⟨c,j,q+1,k,false,r.set g x⟩)/\nS (fg l h ⟨c,j,q+1,k,false,r.set g x⟩) u L M (d.set i (o,some (c,s.set g x))):=by
 have y:=a.Wp _ (ay B);have I:h≠u:=λK=>by subst K;rw[a.get]at b;simp at b;exact y.2 b.1.symm
 have aA:=Step.adv a.ok b (a.DG (ay B) m) I ⟨c,j,q+1,k,false,r.set g x⟩;have ap:(d.set i (o,some (c,s.set g x))).map (·.1)=d.map (·.1):=by
  rw[aU];simp only;apply dh;intro n;rw[bR]
  grind
 refine⟨aA,a.ok.put _ _,by rw[ee b,ao (br I),ap];exact a.get,λF an=>?_,λn J av N v X z=>?_⟩
 ·obtain⟨n,f⟩:=cN an;rw[bR]at f;split at f
  ·split at f
   ·simp only[ar]at f;subst f;refine⟨?_,y.2⟩;rcases y.1 with⟨rfl,t⟩|⟨Q,aE,a6,aN,a7,rfl,t,W⟩
    ·simp at m
    ·simp only[Cx,ar]at m;subst m;rw[b]at t;simp only[ar,jv.mk.injEq]at t;obtain⟨_,rfl,rfl,rfl,_,rfl⟩:=t;exact .inr ⟨Q,j,q+1,k,r.set g x,by rw[dc],by rw[ee b,aq rfl],by rw[dc,List.take_set,W]⟩
   grind
  ·rename_i K;have A:=a.Wp F (ay f);obtain⟨aX,V⟩:=F;cases V with
   |none=>exact A
   |some p=>exact⟨A.1.mono λv z=>by rw[ee b,ao (λe=>by subst e;exact a.YI i n D _ _ B f v m z)],A.2⟩
 ·have:∀(C:Nat) (w:T×aa (Nat×List T)),(d.set i (o,some (c,s.set g x)))[C]? =some w->∃E,d[C]? =some E/\E.1=w.1:=by
   intro C w al;rw[bR]at al
   grind
  obtain⟨O,Z,S⟩:=this n N X;obtain⟨R,ae,U⟩:=this J v z;rw[<-S,<-U];exact a.YI n J av O R Z ae
def Gr.fz{b:H}{f:T}{k:Nat}{h:Type}{a:h->T}{c:List h}(d:Gr b f k (c.map a))(j:∀g,yY b 11 (a g)=some (a g)):TI.fz b f=some (sl (c.map a)):=by
 have:=d.qC j;rcases d with⟨rfl,i⟩|⟨l,m,q,n,r,rfl,o,p⟩
 ·rw[i];rfl
 simp_all
def Xt.out{h b:H}{d f:T}{c:Nat}{a:List T}(g:Xt (TI.hr h) d c a f b):Xt h d c a f (mK h b):=by
 obtain⟨a1,a2,a3,a4⟩:=g;exact⟨a1.out h,λi j k=>by rw[il,a2 i j k,iI],a3,(a4.out h).hp,(a4.out h).low,a4.sz⟩
def Gr.my{cx:Ctx}{b:H}{j:T}{a:Nat}{k:Type}{f:k->T}{h:List k}(s:Gr b j a (h.map f))(o:iE 0 b){i l:ab}{p d:Ty}(m:cx.ty i=some p)(n:p.u= .slice l)(t:cx.ty l=some d)(y:d.size=a)(v:1<=d.bytes)(w:∀x,MX (f x)=a)(x:k)(z:(h.length+1)*d.bytes<=70368744177664):
 ∃g c,jn cx (b.cons ⟨a,0,0,true,false,[f x]⟩) i i j (.arr b.size 0 0 1 false)=some (.val g c)/\Xt b j a ((h++[x]).map f) g c:=by
 have q:=(Xt.refl s o).cons ⟨a,0,0,true,false,[f x]⟩;have⟨g,c,e,r⟩:=Gr.app (cx:=cx) q.1 (o.cons _) (x:= .arr b.size 0 0 1 false) (xs:=[f x]) m n t m n y v (by rw[iF];simp) (by simpa using show(f x).cells.length=a from w x) Y (by grind);exact⟨g,c,e,by rw[List.map_append];exact q.trans r.xt⟩
end
def nS.start{h:H}{w szw ver:Nat}{F:List (T×aa (Nat×List T))}(o:iE 0 h)(g:h.get w=some ⟨szw,0,ver,true,false,[.agg (F.map (·.1))]⟩)
 (f:∀a∈F,(a.2=none/\eG a.1=none)\/(a.1= .ed [] false/\∃e,a.2=some (e,[])/\e≠szw)):nS h w szw ver F/\∀c,Fp h w c->c=w:=by
 have i:∀a∈F,eG a.1=none:=λa h=>by
  rcases f a h with k|k
  ·exact k.2
  ·rw[k.1];rfl
 refine⟨⟨o,g,λa h=>?_,λs k _ l c m r q b=>by rw[i l (ay m)]at b;simp at b⟩,λc b=>?_⟩
 ·obtain⟨p,t⟩:=a;rcases f _ h with⟨rfl,k⟩|⟨rfl,e,rfl,k⟩
  ·exact k
  ·exact⟨Gr.nil _ _,k⟩
 ·rcases b with rfl|⟨u,d,p,j,b⟩
  ·rfl
  ·rw[g]at d;simp only[ar]at d;subst d;simp only[gH,bm,cC,bG,T.cells]at j;obtain⟨a,n,rfl⟩:=List.mem_map.1 j;rw[i a n]at b;simp at b
def nS.other{b e:H}{d l m g:Nat}{i:List (T×aa (Nat×List T))}(h:nS b d l m i)(j:∀a,Fp b d a->¬Fp b g a)(f:Step g b e):nS e d l m i/\∀a,Fp e d a->¬Fp e g a:=by
 have k:∀a,Fp b d a->e.get a=b.get a:=λa c=>f.get a (h.fp a c) (j a c);refine⟨h.step ⟨f.ok.hp,f.ok.low,aw _⟩ k,λa c n=>?_⟩;rw[jt (k d (.inl rfl))]at c;rcases f.fp a n with q|q
 ·exact j a c q
 ·have:=h.fp a c;omega
structure Sm(b:Nat)(h h':H):Prop where
 ok:iE 0 h'
 size:h'.size=h.size
 get:∀c,c≠b->h'.get c=h.get c
def Sm.refl{b:Nat}{a:H}(c:iE 0 a):Sm b a a:=⟨c,rfl,λ_ _=>rfl⟩
theorem Sm.put{a:Nat}{e b:H}(d:Sm a e b){x:jv}(h:b.get a=some x)(g:jv):Sm a e (fg b a g):=⟨d.ok.put a g,by rw[ig];exact d.size,λc f=>by rw[ee h,ao f];exact d.get c f⟩
def Sm.iD{d:Nat}{h e:H}{a g ver:Nat}{b:List (T×aa (Nat×List T))}(f:Sm d h e)(k:nS h a g ver b)(i:¬Fp h a d):nS e a g ver b:=k.step f.ok λc j=>f.get c λl=>i (by rw[<-l];exact j)
def jh.ft{b c:H}{V V':Nat->Prop}{d:Nat}{e f:List T}(g:jh (FT b V d) e f)(h:∀a,V a->V' a/\c.get a=b.get a):jh (FT c V' d) e f:=g.imp λ_ _ i=>i.mono h
def Gr.KH{a:H}{V:Nat->Prop}{g:T}{l d:Nat}{b c:List T}(f:Gr a g l b)(h:d<=11)(e:jh (FT a V d) b c):TI.fz a g=some (sl c):=by
 have j:iu (yY a 11) b=some c:=sa (e.imp λ_ _ k=>(k.deep h).yY);have i:=f.jM;rcases f with⟨rfl,rfl⟩|⟨m,n,r,o,s,rfl,p,q⟩
 ·cases e;rfl
 ·rw[wY,i,eJ,j];rfl
section
def jh.left{a f:Type}{b:a->f->Prop}{d:List a}{j:List f}(h:jh b d j){e:a}(c:e∈d):∃k,b e k:=by
 induction h with
 |nil=>simp at c
 |cons g _ i=>
  rcases List.mem_cons.1 c with rfl|q
  ·exact⟨_,g⟩
  ·exact i q
def FT.fzN{a:H}{z:Nat->Prop}{h:Nat}(F:∀c,z c->h<=c):∀{b:Nat} {j y:T},FT a z b j y->freeze a h b j=freeze a 0 b j:=by
 intro b;induction b with
 |zero=>intro j y v;exact v.elim
 |succ b C=>
  intro j y v;rcases v with⟨A,B,rfl⟩|⟨c,l,i,g,s,n,r,rfl,I,f,t,rfl⟩|⟨p,N,rfl,t,rfl⟩
  ·rw[u6 a h b j A B,u6 a 0 b j A B]
  ·have u:iu (freeze a h b) n=iu (freeze a 0 b) n:=oM λk w=>by
    have⟨M,x⟩:=t.left w;exact C x
   have E:∀q,freeze a q (b+1) (.arr c l i g s)=iG (Nat.ble q c) (Z (a.get c) λk=>jv.casesOn k λ_ m _ exact o e=>
    iG (Nat.beq m l) (Bool.casesOn o (Z (Z (kH i e) λd=>takeN g d) λn=>Z (iu (freeze a q b) n) λr=>
     List.casesOn r (List.casesOn e (Bool.casesOn exact (some .iO) (some (.ed [] false))) λ_ _=>some .iO) λ_ _=>some (.ed r s)) none)):=λq=>rfl
   rw[E,E];have K:a.jM (.arr c l i g s)=Z (a.get c) λk=>jv.casesOn k λ_ m _ _ o e=>iG (Nat.beq m l) (Bool.casesOn o (Z (kH i e) λd=>takeN g d) none):=rfl;rw[K]at f;rw[show Nat.ble h c=true from cq (F c I),show Nat.ble 0 c=true from cq (aw c)];show(Z (a.get c) _)=(Z (a.get c) _);cases J:a.get c with
   |none=>rfl
   |some k=>
    rw[J]at f;obtain⟨Q,m,R,O,o,e⟩:=k;simp only[eJ]at f|-;cases L:Nat.beq m l with
    |false=>rfl
    |true=>
     rw[L]at f;cases o with
     |true=>rfl
     |false=>
      have f:(Z (kH i e) λd=>takeN g d)=some n:=f;show(Z (Z (kH i e) λd=>takeN g d) _)=(Z (Z (kH i e) λd=>takeN g d) _);rw[f,eJ,eJ,u]
  ·have u:iu (freeze a h b) p=iu (freeze a 0 b) p:=oM λk w=>by
    have⟨M,x⟩:=t.left w;exact C x
   show(Z (iu (freeze a h b) p) _)=(Z (iu (freeze a 0 b) p) _);rw[u]
def FT.top{b:H}{V:Nat->Prop}{h d:Nat}(I:d<=11)(q:∀a,V a->h<=a){c f:List T}(r:jh (FT b V d) c f):∃i,jJ b h (.agg c)=some i/\cn i= .agg f:=by
 have u:iu (jk b h) c=iu (jk b 0) c:=oM λA x=>by
  have⟨J,s⟩:=r.left x;have l:=(s.deep (show d<=12 by omega)).fzN q;rcases(s.deep (show d<=12 by omega))with⟨m,n,rfl⟩|⟨a,j,p,o,k,C,E,rfl,w,F,v,rfl⟩|⟨c,f,rfl,v,rfl⟩
  ·cases A<;>first|exact l|(simp[kE]at m)
  ·have t:∀e,jk b e (.arr a j p o k)=(Bool.casesOn (Nat.ble e a) (some (.arr a j p o k)) (freeze b e 12 (.arr a j p o k)):aa T):=λe=>rfl;rw[t,t,show Nat.ble h a=true from cq (q a w),show Nat.ble 0 a=true from cq (aw a),l]
  ·exact l
 have g:qC b (.agg c)=some (.agg f):=by
  rw[N6,sa (r.imp λB a e=>(e.deep (show d<=12 by omega)).fz)];rfl
 have g:(Z (Z (iu (jk b 0) c) λy=>some (T.agg y)) λz=>some (cn z))=some (.agg f):=g;rw[<-u]at g;have⟨i,m,n⟩:=dX.1 g;simp only[ar]at n;exact⟨i,m,n⟩
def Lb.md{b:Nat}{c d:H}{a:Nat}{f:jv}(e:Lb b c a f)(h:d.get b=c.get b)(g:d.get a=c.get a):Lb b d a f:=⟨by rw[g];exact e.get,by rw[jt h];exact e.nf⟩
def w8(a b:H):H:=⟨a.size,(mK a b).low,(mK a b).gU.drop ((mK a b).size-a.size)⟩
def Bw{h a:H}(d:Hp a)(e:h.size<=a.size){b:Nat}(c:b<h.size):(w8 h a).get b=a.get b:=
 (KE (h:=mK h a) (by unfold Hp at*;exact d) e c).trans (il h a b)
def iE.cut{a b:H}(c:iE 0 a)(d:Hp b)(e:a.size<=b.size):iE 0 (w8 a b):=
 ⟨by unfold Hp at*;unfold w8 mK;simp;omega,by have:=c.low;unfold w8 mK;simp only;split<;>omega,aw _⟩
def Ay(a:H)(f:T)(b:H)(post:T->H->Prop):Prop:=
 Hp b/\a.size<=b.size/\(∀c e,c<a.size->b.get c=some e->b.get c=a.get c\/∀g∈gH e.fR,rj a.size g)/\∃d,jJ b a.size f=some d/\post (cn d) (w8 a b)
section
variable {P:ai}{cx:Ctx}{J:Nat}{ι:Type}{pre:ι->List T->H->Prop}{post:ι->List T->H->T->H->Prop}
def ta{tb:gG}(X:P.follows .mixedOrders=true)(jQ:jF P cx){m:aj}{g:Func}{t:DL}(j:F6 P cx m g J t)(k:List T->H->Nat)(Z:∀d q a,pre d q a->q.length<=g.ntmps)
 (aA:∀d b a,pre d b a->∀C,nY C 0 b->W (j4 cx (sq P cx tb) (k b a) J t (g.body.getD .skip) ⟨C,.nil⟩ (hr a)) (Bg cx J g.results.toList λo O=>Ay a (kt o) O (post d b a))):(jY ι pre post).Ok P cx m:=by
 intro b a ⟨aN,ae⟩;have A:∀d,pre d b a->∃h c,u9 cx (sq P cx tb) (k b a) g J true b a=some (h,mK a c)/\Ay a h c (post d b a):=by
  intro d i;have⟨B,av,_,R⟩:=nQ J g.ntmps 0 b (Z d b a i);have⟨x,M,c,e,aE,o,an,al⟩:=F0 (aA d b a i B R);have e:=so _ j.dr _ _ _ e;have⟨K,f⟩:=BB j.ok;rw[f]at e;refine⟨_,c,?_,al⟩;unfold u9;rw[f];obtain⟨p,z,r⟩:=a;simp only;rw[av,eJ];have e:kJ cx (sq P cx tb) (k b ⟨p,z,r⟩) J K ⟨B,.nil⟩ ⟨p,p,r⟩=some (x,M,c):=e;rw[e,eJ,mW];have ap:=qf an;have V:=yi z (kt o) c;rcases aE with rfl|rfl<;>(simp only;rw[ap,eJ];exact V)
 have⟨h,c,u,aX,a6,a7,a8,l,bn⟩:=A aN ae;have S:rm P cx ⟨m,b,a,h,mK a c⟩:=λI w bi L s Q=>qU (F:=⟨g,J,true,none⟩) X jQ j.at_ j.ok _ (FL P cx tb) (k b a) b a h (mK a c) u I w bi L s Q;have U:=FO S (by unfold Hp at*;exact aX) a6 (λE y f v=>by rw[il]at v|-;exact a7 E y f v) (by rw[vz (il a c)];exact l);refine⟨cn a8,w8 a c,λd i=>?_,U⟩;have⟨r2,n,f,p1,p2,p3,bp,p4,p5⟩:=A d i;rw[u]at f;simp only[ar,aB]at f;obtain⟨rfl,e⟩:=f;have N:jJ c a.size h=jJ n a.size h:=by rw[<-vz (il a c),e,vz (il a n)]
 rw[N,p4]at l;simp only[ar]at l;subst l;have:w8 a c=w8 a n:=by unfold w8;rw[e]
 rw[this];exact p5
