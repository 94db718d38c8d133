/- W04b -/
import Derived.Test.YtbappgeamhmmbaaGreatDoorA21
import Derived.Test.YtbappgeamhmmbaaGreatDoorA9
set_option linter.all false
set_option maxRecDepth 100000
set_option maxHeartbeats 0
namespace Go.Proofs.YtbappgeamhmmbaaGreatDoor
noncomputable section
open Go Go.TI Tryz
attribute [-simp] List.map_take List.map_drop List.map_append fj ez TI.d8 Bool.not_or Bool.not_and
attribute [simp] fh eG
def Uy(a:H)(j:Nat):Prop:=∃i d e f c g h,∃b:List dH,a.get j=some (Z 6 i [.agg [d,e,f,c,g,h]])/\Gr a c 11 (b.map dH.t)/\b.length<=1000000/\gH 0 a
def EB:kI:=⟨λd a=>∃b c e h,d=[.ptr b 0 0 0,D c,D e,.str h]/\Uy a b,λ_ a g f=>f=a/\FE g⟩
def NV:EB.Ok prog cx 248:=by
 refine HP (tb:=⟨pt [],ht []⟩) iB gW (iP 70368744310543 [] func248) false (λ_ _=>1000005) (λS b P=>by obtain⟨j,y,e,K,rfl,_⟩:=P;simp[f248]) ?_;rintro _ b ⟨j,y,e,K,rfl,an,T,U,V,z,W,X,k,s,n,hl,v⟩ d C;simp at C;obtain⟨f,g,h,i⟩:=C;have u:=H.ej s;simp[f248];refine fc k.length B (λo d c=>Fr b.size (hr b) c/\gH 0 c/\dy d 0 (.ptr j 0 0 0)/\dy d 1 (D y)/\dy d 2 (D e)/\dy d 3 (.str K)/\dy d 9 (D o)) ?_ ?_ B (by simp[f,g,h,i,Fr.refl,v.hr])
 ·rintro o d c F M ⟨a,w,f,g,h,i,m⟩;have p:=(a.get j u).trans ((gu b j).trans s);have l:Gr c z 11 (k.map dH.t):=n.mono λe q=>by have⟨_,_,_,_,x,_⟩:=n.box q;rw[a.get e (H.ej x),gu]
  have N:o<(k.map dH.t).length:=by simpa using F
  have⟨L,Y,ap,ae,av,al,Q,G,I⟩:=l.IG (te:=FI) rfl N;have O:=Nat.ne_of_lt (bp u a.size);simp at I;have R:(L=c.size)=False:=by simp;have:=H.ej G;omega
  simp[f,g,h,i,m,p,l.len (cx:=cx),Q,G,I,F,w.low,O,R];have A:=a.trans (Fr.cons (lo:=b.size) (by have:b.size<=c.size:=a.size;omega) (Z 11 1 [k[o].t]))
  repeat' (refine dV (λE=>?_) (λE=>?_)<;>simp[E,f,g,h,i,m,M,A,w.cons])
  exact pF b _ _ v.hp A (r:= .bool true) rfl ⟨rfl,J⟩
 ·rintro d c ⟨a,w,f,g,h,i,m⟩;have p:=(a.get j u).trans ((gu b j).trans s);have l:Gr c z 11 (k.map dH.t):=n.mono λe q=>by have⟨_,_,_,_,x,_⟩:=n.box q;rw[a.get e (H.ej x),gu]
  simp[f,g,h,i,m,p,l.len (cx:=cx)];exact pF b _ _ v.hp a (r:= .bool false) rfl ⟨rfl,J⟩
structure Wk(p:fx)(A:List dH)(n:Nat)(h:H)(w:Nat):Prop where
 ok:gH 0 h
 fp:∀b,Fp h w b->b<h.size
 ex:∃ver t av sv ev,∃S E:List (List Nat),h.get w=some (Z 6 ver [.agg [sl (p.jc.map gU.t),sl (p.dC.map fJ.t),D t,av,sv,ev]])/\
  Gr h av 11 (A.map dH.t)/\Gr h sv 1 (S.map T.str)/\Gr h ev 1 (E.map T.str)/\S.length<=n/\E.length<=n/\∀b,dM sv=some b->dM ev≠some b
def Wk.ins{k:fx}{a:List dH}{j:Nat}{b:H}{d:Nat}(c:Wk k a j b d)(i:a.length<=1000000):Uy b d:=by
 have⟨l,o,e,sv,f,n,m,g,h,_⟩:=c.ex;exact⟨l,_,_,_,e,sv,f,a,g,h,i,c.ok⟩
def r9{c:H}{d:Nat}{a:iI}(f:c.get d=some a){v:T}(g:v∈eY a.eg){b:Nat}(e:dM v=some b):Fp c d b:= .inr ⟨a,f,v,g,e⟩
def Wk.same{m:fx}{h:List dH}{l k:Nat}{c d:H}{g:Nat}(j:Wk m h l c g)(C:l<=k)(w:gH 0 d)(f:∀a,Fp c g a->d.get a=c.get a)(v:c.size<=d.size):Wk m h k d g:=by
 have⟨y,x,p,sv,q,o,n,e,r,s,t,z,A,u⟩:=j.ex;have i:=f g (.inl rfl);refine⟨w,λa b=>by rw[iL i]at b;exact bp (j.fp a b) v,y,x,p,sv,q,o,n,by rw[i];exact e,?_,?_,?_,B,B,u⟩
 ·exact r.mono λa b=>f a (r9 e (by simp[eY,T.cells]) b)
 ·exact s.mono λa b=>f a (r9 e (by simp[eY,T.cells]) b)
 ·exact t.mono λa b=>f a (r9 e (by simp[eY,T.cells]) b)
def Wk.lt{f:fx}{c:List dH}{e:Nat}{b:H}{a:Nat}(d:Wk f c e b a):a<b.size:=d.fp a (.inl rfl)
theorem Wk.cons{e:fx}{b:List dH}{d:Nat}{c:H}{w:Nat}(a:Wk e b d c w)(f:iI):Wk e b d (c.cons f) w:=
 a.same (au _) (a.ok.cons f) (λg h=>by rw[dO,ao (by have:=a.fp g h;omega)]) J 
def Wk.hr{e:fx}{b:List dH}{d:Nat}{a:H}{f:Nat}(c:Wk e b d a f):Wk e b d (TI.hr a) f:=c.same (au _) c.ok.hr (λg _=>gu a g) (au _)
def Wk.out{e:fx}{b:List dH}{d m:Nat}{h a:H}{f:Nat}(c:Wk e b d a f)(i:d<=m):Wk e b m (lM h a) f:=c.same i (c.ok.out h) (λg _=>fO h a g) (au _)
def Wk.spawn{a:fx}{m:List dH}{k d h:Nat}{c f:H}{g:Int}{e sv b l:T}{j n:List (List Nat)}{w:List Nat}(u:Wk a m k c d)(o:c.get d=some (Z 6 h [.agg [sl (a.jc.map gU.t),sl (a.dC.map fJ.t),D g,e,sv,b]]))
 (gA:Gr c e 11 (m.map dH.t)) (s:Gr c sv 1 (j.map T.str)) (E:Gr c b 1 (n.map T.str)) (I:j.length<=k) (K:n.length<=k) (C:∀r,dM sv=some r->dM b≠some r) (F:AX c sv 1 (j.map T.str++[.str w]) l f):
 f.get d=some (Z 6 h [.agg [sl (a.jc.map gU.t),sl (a.dC.map fJ.t),D g,e,sv,b]])/\em c f d=true/\
  Step d c (dT f d (Z 6 (h+1) [.agg [sl (a.jc.map gU.t),sl (a.dC.map fJ.t),D g,e,l,b]]))/\
  Wk a m (k+1) (dT f d (Z 6 (h+1) [.agg [sl (a.jc.map gU.t),sl (a.dC.map fJ.t),D g,e,l,b]])) d:=by
 have⟨p,G⟩:=v8 (i:=4) u.ok u.fp o rfl dt s F.xt;have⟨q,z,A,v⟩:=G _ rfl;have⟨a1,a2⟩:=v e 11 _ J gA (s.ne gA dt) dt;have⟨x,y⟩:=v b 1 _ J E C dt;exact⟨p.trans o,eQ p,q,⟨q.ok.hp,q.ok.low,aw _⟩,z,h+1,g,e,l,b,j++[w],n,by rw[dF (p.trans o),aq rfl],a1,by rw[List.map_append];exact A,x,dp,B,y⟩
def Wk.set{a:fx}{o:List dH}{m c k:Nat}{b h:H}{j:Int}{d sv g n:T}{p l:List (List Nat)}{x:List Nat}(f:Wk a o m b c)(q:b.get c=some (Z 6 k [.agg [sl (a.jc.map gU.t),sl (a.dC.map fJ.t),D j,d,sv,g]]))
 (gA:Gr b d 11 (o.map dH.t)) (F:Gr b sv 1 (p.map T.str)) (v:Gr b g 1 (l.map T.str)) (K:p.length<=m) (L:l.length<=m) (E:∀e,dM sv=some e->dM g≠some e) (G:AX b g 1 (l.map T.str++[.str x]) n h):
 h.get c=some (Z 6 k [.agg [sl (a.jc.map gU.t),sl (a.dC.map fJ.t),D j,d,sv,g]])/\em b h c=true/\
  Step c b (dT h c (Z 6 (k+1) [.agg [sl (a.jc.map gU.t),sl (a.dC.map fJ.t),D j,d,sv,n]]))/\
  Wk a o (m+1) (dT h c (Z 6 (k+1) [.agg [sl (a.jc.map gU.t),sl (a.dC.map fJ.t),D j,d,sv,n]])) c:=by
 have⟨s,I⟩:=v8 (i:=5) f.ok f.fp q rfl dt v G.xt;have⟨u,A,C,w⟩:=I _ rfl;have⟨a1,a2⟩:=w d 11 _ J gA (v.ne gA dt) dt;have⟨y,z⟩:=w sv 1 _ J F (λe r f=>E e f r) dt;exact⟨s.trans q,eQ s,u,⟨u.ok.hp,u.ok.low,aw _⟩,A,k+1,j,d,sv,n,p,l++[x],by rw[dF (s.trans q),aq rfl],a1,y,by rw[List.map_append];exact C,B,dp,λe r f=>z e f r⟩
def Wk.Xa{a:fx}{h:List dH}{k d g:Nat}{c e:H}{f:Int}{j sv b l:T}{n m:List (List Nat)}{x:dH}(v:Wk a h k c d)(o:c.get d=some (Z 6 g [.agg [sl (a.jc.map gU.t),sl (a.dC.map fJ.t),D f,j,sv,b]]))
 (gA:Gr c j 11 (h.map dH.t)) (u:Gr c sv 1 (n.map T.str)) (s:Gr c b 1 (m.map T.str)) (C:n.length<=k) (E:m.length<=k) (F:∀r,dM sv=some r->dM b≠some r) (G:AX c j 11 (h.map dH.t++[x.t]) l e):
 e.get d=some (Z 6 g [.agg [sl (a.jc.map gU.t),sl (a.dC.map fJ.t),D f,j,sv,b]])/\em c e d=true/\
  Step d c (dT e d (Z 6 (g+1) [.agg [sl (a.jc.map gU.t),sl (a.dC.map fJ.t),D f,l,sv,b]]))/\
  Wk a (h++[x]) k (dT e d (Z 6 (g+1) [.agg [sl (a.jc.map gU.t),sl (a.dC.map fJ.t),D f,l,sv,b]])) d:=by
 have⟨p,I⟩:=v8 (i:=3) v.ok v.fp o rfl dt gA G.xt;have⟨q,z,A,w⟩:=I _ rfl;have⟨a1,a2⟩:=w sv 1 _ J u (gA.ne u dt) dt;have⟨y,K⟩:=w b 1 _ J s (gA.ne s dt) dt;exact⟨p.trans o,eQ p,q,⟨q.ok.hp,q.ok.low,aw _⟩,z,g+1,f,l,sv,b,n,m,by rw[dF (p.trans o),aq rfl],by rw[List.map_append];exact A,a1,y,C,E,F⟩
def Wk.back{b:fx}{p:List dH}{o i k:Nat}{d:H}{j:Int}{m sv f h:T}{r q:List (List Nat)}{K:dH}(g:Wk b (p++[K]) o d i)(c:d.get i=some (Z 6 k [.agg [sl (b.jc.map gU.t),sl (b.dC.map fJ.t),D j,m,sv,f]]))
 (G:Gr d sv 1 (r.map T.str)) (F:Gr d f 1 (q.map T.str)) (A:r.length<=o) (C:q.length<=o) (E:∀e,dM sv=some e->dM f≠some e) (gA:Gr d h 11 (p.map dH.t)) (n:dM h=dM m):
   Step i d (dT d i (Z 6 (k+1) [.agg [sl (b.jc.map gU.t),sl (b.dC.map fJ.t),D j,h,sv,f]]))/\
   Wk b p o (dT d i (Z 6 (k+1) [.agg [sl (b.jc.map gU.t),sl (b.dC.map fJ.t),D j,h,sv,f]])) i:=by
 have w:=Step.put g.ok c (Z 6 (k+1) [.agg [sl (b.jc.map gU.t),sl (b.dC.map fJ.t),D j,h,sv,f]]) (λv l e a=>by
  simp[eY,T.cells]at l;rcases l with rfl|rfl|rfl|rfl|rfl|rfl
  ·simp at a
  ·simp at a
  ·simp at a
  ·exact .inl (r9 c (v:=m) (by simp[eY,T.cells]) (by rw[<-n];exact a))
  ·exact .inl (r9 c (v:=v) (by simp[eY,T.cells]) a)
  ·exact .inl (r9 c (v:=v) (by simp[eY,T.cells]) a))
 have u:∀{v:T} {x:Nat} {y:List T},Gr d v x y->x≠6->Gr (dT d i (Z 6 (k+1) [.agg [sl (b.jc.map gU.t),sl (b.dC.map fJ.t),D j,h,sv,f]])) v x y:=λz I=>z.mono λe n=>by
  have⟨_,_,_,_,a,_⟩:=z.box n;rw[dF c,ao (λg=>by subst g;rw[c]at a;simp at a;exact I a.1.symm)]
 refine⟨w,⟨w.ok.hp,w.ok.low,aw _⟩,λe a=>?_,k+1,j,h,sv,f,r,q,by rw[dF c,aq rfl],u gA dt,u G dt,u F dt,A,C,E⟩;rw[fI];rcases a with rfl|⟨L,s,v,l,a⟩
 ·exact g.lt
 rw[dF c,aq rfl]at s;simp only[ar]at s;subst s;simp[eY,T.cells]at l;rcases l with rfl|rfl|rfl|rfl|rfl|rfl
 ·simp at a
 ·simp at a
 ·simp at a
 ·exact g.fp e (r9 c (v:=m) (by simp[eY,T.cells]) (by rw[<-n];exact a))
 ·exact g.fp e (r9 c (v:=v) (by simp[eY,T.cells]) a)
 ·exact g.fp e (r9 c (v:=v) (by simp[eY,T.cells]) a)
def Wk.dQ{b:fx}{n:List dH}{m h k:Nat}{d:H}{K:Int}{f sv e:T}{p o:List (List Nat)}(l:Wk b n m d h)(g:d.get h=some (Z 6 k [.agg [sl (b.jc.map gU.t),sl (b.dC.map fJ.t),D K,f,sv,e]]))
 (gA:Gr d f 11 (n.map dH.t)) (F:Gr d sv 1 (p.map T.str)) (E:Gr d e 1 (o.map T.str)) (z:p.length<=m) (A:o.length<=m) (C:∀c,dM sv=some c->dM e≠some c) (j:Int):
   Step h d (dT d h (Z 6 (k+1) [.agg [sl (b.jc.map gU.t),sl (b.dC.map fJ.t),D j,f,sv,e]]))/\
   Wk b n m (dT d h (Z 6 (k+1) [.agg [sl (b.jc.map gU.t),sl (b.dC.map fJ.t),D j,f,sv,e]])) h:=by
 have y:∀v∈ [sl (b.jc.map gU.t),sl (b.dC.map fJ.t),D j,f,sv,e],∀c,dM v=some c->Fp d h c:=λv i c a=>by
  simp at i;rcases i with rfl|rfl|rfl|rfl|rfl|rfl
  ·simp at a
  ·simp at a
  ·simp at a
  ·exact r9 g (v:=v) (by simp[eY,T.cells]) a
  ·exact r9 g (v:=v) (by simp[eY,T.cells]) a
  ·exact r9 g (v:=v) (by simp[eY,T.cells]) a
 have s:=Step.put l.ok g (Z 6 (k+1) [.agg [sl (b.jc.map gU.t),sl (b.dC.map fJ.t),D j,f,sv,e]]) (λv i c a=> .inl (y v (by simpa[eY,T.cells]using i) c a));have r:∀{v:T} {u:Nat} {w:List T},Gr d v u w->u≠6->Gr (dT d h (Z 6 (k+1) [.agg [sl (b.jc.map gU.t),sl (b.dC.map fJ.t),D j,f,sv,e]])) v u w:=λx I=>x.mono λc G=>by
  have⟨_,_,_,_,a,_⟩:=x.box G;rw[dF g,ao (λl=>by subst l;rw[g]at a;simp at a;exact I a.1.symm)]
 refine⟨s,⟨s.ok.hp,s.ok.low,aw _⟩,λc a=>?_,k+1,j,f,sv,e,p,o,by rw[dF g,aq rfl],r gA dt,r F dt,r E dt,z,A,C⟩;rw[fI];rcases a with rfl|⟨L,q,v,i,a⟩
 ·exact l.lt
 rw[dF g,aq rfl]at q;simp only[ar]at q;subst q;exact l.fp c (y v (by simpa[eY,T.cells]using i) c a)
structure Xk where
 (p:fx) (A:List dH) (n w:Nat) (s:dH)
def U6(a:Xk)(c:List T)(d:H):Prop:=c=[.ptr a.w 0 0 0,a.s.t]/\Wk a.p a.A a.n d a.w/\Qx a.p/\a.n<=10000000/\a.s.w<=1000000/\a.A.length<=1000000/\
 (9<=a.s.op/\a.s.op<=11->∃b,b<a.p.jc.length/\rm (a.p.jc.map gU.name) a.s.name 0=b)
def qj(a:Xk)(e:List T)(c:H)(d:T)(b:H):Prop:=D7 d/\Step a.w c b/\Wk a.p a.A (a.n+1) b a.w
noncomputable abbrev ZV:kI:=jr Xk U6 qj
def aai:ZV.Ok prog cx 211:=by
 obtain⟨F,di⟩:=hlB NV (λ_ _ _ _ q=>q);refine jn (tb:=⟨pt [(250,zw.ji),(251,B1.ji),(249,Vi.ji),(252,DU.ji),(123,BP),(209,nd),(210,ll)],ht [(248,EB)]⟩) iB gW (iP 14474012017383023515249485065460760621927424225494418519668988771800801378299 [(1,[(7,9)]),(8,[(4,5),(4,8)]),(9,[(4,5),(4,8),(4,9),(4,10),(4,12),(11,12),(4,15),(11,15)]),(28,[(2,7)]),(49,[(4,5),(4,8)])] func211) (λ_ _=>5) (λi l h ds=>by obtain⟨rfl,_⟩:=ds;simp[f211]) ?_;rintro⟨d,A,n,f,a⟩ _ h ⟨rfl,k,L,dn,dv,bS,b7⟩ eD bT;simp only at k L dn dv bS b7;simp at bT;obtain⟨w,y⟩:=bT;have G:=(k.hr.cons (Z 11 0 [a.t])).cons (Z 2 1 [d.t]);have M:Step f h (lM h (((hr h).cons (Z 11 0 [a.t])).cons (Z 2 1 [d.t]))):=
  ((Step.cons k.ok.hr k.lt _).trans (Step.cons (k.hr.cons _).ok (k.hr.cons _).lt _)).out
 have ec:Step f (hr h) (((hr h).cons (Z 11 0 [a.t])).cons (Z 2 1 [d.t])):=(Step.cons k.ok.hr k.lt _).trans (Step.cons (k.hr.cons _).ok (k.hr.cons _).lt _);have O:=G.out (h:=h) (m:=n+1) B;have al:∀q:Int,9<=q/\q<=11->decide (a.op=q)=true->∃m:Nat,m<d.jc.length/\rm (d.jc.map gU.name) a.name 0=m:=λq eu an=>b7 (by simp at an;omega);have K:=λ{tb:fw} (ht:tb.h 248=some EB) l b N=>di ht [.ptr f 0 0 0,D l,D b,.str N] _ ⟨f,l,b,N,rfl,G.ins bS⟩;have ey:=k.lt;have W:(f=h.size)=False:=dp;have X:(f=h.size+1)=False:=dp;have dd:(((hr h).cons (Z 11 0 [a.t])).cons (Z 2 1 [d.t])).get f=h.get f:=by simp[W,X]
 obtain⟨eC,N,cb,sv,c6,S,E,o,gA,bN,bH,bu,bz,bB⟩:=G.ex;have bs:=dd.symm.trans o;have c9:=bN.qA J;have c7:=bH.qA J;have c1:=λ{tb:fw} (h:tb.p 123=some BP) x=>Mt h S x B;have cL:=λ{tb:fw} (h:tb.p 123=some BP) x=>Mt h E x B;obtain⟨Nw,C⟩:=zw.fnI (λc:List Nat×Int×Int=>(d,N,c)) (λ_=>L);have C:=λ{tb:fw} (ht:tb.p 250=some zw.ji) x l b=>C ht (x,l,b);obtain⟨eh,R⟩:=DU.fnI (λb:Bool=>b) (λ_=>trivial);have I:∀{tb:fw},tb.p 249=some Vi.ji->∀l b,rl prog cx tb 249 [D l,D b]=some (D (if l=0 then b else l)):=λht l b=>by
  obtain⟨_,rfl,an⟩:=Vi.use (l,b) trivial;exact an ht
 have ea:=a.kQ;obtain⟨_,⟨eA,rfl⟩,H⟩:=B1.use (d,N,a.e) ⟨L,dq⟩;have eT:=λ{tb:fw} (h:tb.p 210=some ll) x=>wu h d.dC x (by have:=L.2.1;omega);have Q:=λ{tb:fw} (h:tb.p 209=some nd) x=>Be h d.jc x (by have:=L.1;omega);simp[f211,w,y,bs,W,X,K];have s:(((hr h).cons (Z 11 0 [a.t])).cons (Z 2 1 [d.t])).get h.size=some (Z 11 0 [a.t]):=J;have u:(((hr h).cons (Z 11 0 [a.t])).cons (Z 2 1 [d.t])).get (h.size+1)=some (Z 2 1 [d.t]):=J;have Y:(((hr h).cons (Z 11 0 [a.t])).cons (Z 2 1 [d.t])).size=h.size+2:=J;generalize(((hr h).cons (Z 11 0 [a.t])).cons (Z 2 1 [d.t]))=j at*
 generalize F [T.ptr f 0 0 0,T.int IntKind.i64 7,T.int IntKind.i64 7,T.str []] j=eo;generalize F [T.ptr f 0 0 0,T.int IntKind.i64 8,T.int IntKind.i64 8,T.str []] j=er;generalize F [T.ptr f 0 0 0,T.int IntKind.i64 3,T.int IntKind.i64 3,T.str []] j=et;have av:=(show(j.cons (Z 1 0 [.str a.name])).get f=j.get f from by rw[dO,ao B]).trans o;have ae:=G.cons (Z 1 0 [.str a.name]);have b9:=ec.trans (Step.cons G.ok G.lt (Z 1 0 [.str a.name]));have aN:∀{v:T} {ca:Nat} {bn:List T},v=cb\/v=sv\/v=c6->Gr j v ca bn->Gr (j.cons (Z 1 0 [.str a.name])) v ca bn:=λeb g=>g.mono λb b6=>by
  have:b<j.size:=G.fp b (r9 o (v:=_) (by rcases eb with rfl|rfl|rfl<;>simp[eY,T.cells]) b6);rw[dO,ao B]
 have aE:=aN J bN;have aA:=aN J bH;have bC:=aN J gA
 repeat' (refine dV (λz=>?_) (λz=>?_)<;>simp[z,w,y,o,s,u,K,C,R,I,H,eT,Q,qj,M,O])
 ·cases aX:a.index with
  |nil=>rename_i z;simp[aX]at z
  |cons x r=>
   obtain⟨_,⟨eB,rfl⟩,c4⟩:=B1.use (d,N,x) ⟨L,by simp only;rw[aX,dL.jR]at ea;omega⟩;simp[w,y,o,s,u,K,C,R,I,H,eT,Q,qj,M,O,aX,c4]
 iterate 3
  ·obtain⟨m,dk,dm⟩:∃m,m<d.jc.length/\rm (d.jc.map gU.name) a.name 0=m:=by first|exact al 9 B (by assumption)|exact al 10 B (by assumption)|exact al 11 B (by assumption)
   simp[w,y,o,s,u,K,C,R,I,H,eT,Q,qj,M,O,dk,dm]
 ·simp[w,y,o,s,u,K,C,R,I,H,eT,Q,qj,M,O,c9,c1];refine dV (λz=>?_) (λz=>?_)
  ·simp[qj,M,O]
  obtain⟨ef,de,ap,P⟩:=aE.app (cx:=cx) ae.ok (x:= .arr (h.size+2) 0 0 1 false) (xs:=[.str a.name]) pT rfl vn pT rfl rfl J (by rw[gh];simp[Y]) (by simp[T.cells]) J dp;obtain⟨a8,a7,V,bi⟩:=ae.spawn av bC aE aA bu bz bB P;have U:=P.gr;have bk:=(b9.trans V).out;have bl:=bi.out (h:=h) (au _);simp[w,y,o,s,u,Y,W,X,ap,a8,a7,U.fg,U.cells,dN,qj,bk,bl]
 ·obtain⟨ef,de,ap,P⟩:=aA.app (cx:=cx) ae.ok (x:= .arr (h.size+2) 0 0 1 false) (xs:=[.str a.name]) pT rfl vn pT rfl rfl J (by rw[gh];simp[Y]) (by simp[T.cells]) J dp;obtain⟨a8,a7,V,bi⟩:=ae.set av bC aE aA bu bz bB P;have U:=P.gr;have bk:=(b9.trans V).out;have bl:=bi.out (h:=h) (au _);have b8:∀b,h.size<=b->¬Fp (j.cons (Z 1 0 [.str a.name])) f b:=λb b6 q=>by rw[iL (av.trans bs.symm)]at q;have:=k.fp b q;omega
  have ce:=(V.get h.size dp (b8 _ (au _))).trans ((show(j.cons (Z 1 0 [.str a.name])).get h.size=j.get h.size by rw[dO,ao B]).trans s);have cp:=(V.get (h.size+1) dp (b8 _ B)).trans ((show(j.cons (Z 1 0 [.str a.name])).get (h.size+1)=j.get (h.size+1)by rw[dO,ao B]).trans u);simp[w,y,o,s,u,K,C,R,I,H,eT,Q,qj,M,O,c7,cL];refine dV (λz=>?_) (λz=>?_)<;>simp[w,y,o,s,u,Y,W,X,ap,a8,a7,U.fg,U.cells,dN,qj,bk,bl,ce,cp,H,I]
structure Jt where
 (p:fx) (A:List dH) (n w:Nat) (l:List dH)
def EE(a:Jt)(c:List T)(d:H):Prop:=c=[.ptr a.w 0 0 0,sl (a.l.map dH.t)]/\Wk a.p a.A a.n d a.w/\Qx a.p/\a.n+dH.ws a.l<=10000000/\dH.ws a.l<=1000000/\a.A.length<=6/\(∀e∈a.l,MS e)/\
 ∃b,b<a.p.jc.length/\rm (a.p.jc.map gU.name) [99] 0=b
def yl(a:Jt)(e:List T)(c:H)(d:T)(b:H):Prop:=GN d/\Step a.w c b/\Wk a.p a.A (a.n+dH.ws a.l) b a.w
def PG(C:Nat)(b6:(jr Jt (λj a p=>EE j a p/\dH.ws j.l<C) yl).Ok prog cx 156):(jr Jt (λj a p=>EE j a p/\dH.ws j.l<C+1) yl).Ok prog cx 156:=by
 refine jn (tb:=⟨pt [],ht [(211,ZV),(156,jr Jt (λj a p=>EE j a p/\dH.ws j.l<C) yl)]⟩) iB gW (iP 151115745466229840684019 [(10,[(8,12),(9,12)])] func156) (λ_ _=>1000005) (λj a p ef=>by obtain⟨⟨rfl,_⟩,_⟩:=ef;simp[f156]) ?_;rintro⟨K,c,n,m,l⟩ _ p ⟨⟨rfl,bk,Q,ec,eo,dv,bB,P⟩,eb⟩ F bC;simp only at bk Q ec eo dv bB P eb;simp at bC;obtain⟨d,f⟩:=bC;have hl:=dH.uf (l:=l);simp[f156,d,f];refine fc l.length B (λC F I=>Step m (hr p) I/\Wk K c (n+dH.ws (l.take C)) I m/\dy F 0 (.ptr m 0 0 0)/\dy F 1 (sl (l.map dH.t))/\dy F 6 (D C)) ?_ ?_ B (by simp[d,f,dH.iJ,bk.hr,Step.refl bk.ok.hr])
 ·rintro j F I aN bH ⟨a7,w,d,f,i⟩;have bT:=dH.Es l aN;have eP:=dH.w7 l (j+1);have aX:=bB l[j] (aD aN);simp[d,f,i,aN,w.ok.low];generalize l[j]=h at*
  have eO:=h.kQ;refine iD aai J ⟨K,c,n+dH.ws (l.take j),m,h⟩ ⟨rfl,w.cons _,Q,dq,dq,dq,λq=>by simp only;rw[aX.cond q];exact P⟩ ?_;rintro _ u ⟨⟨e,rfl⟩,a8,o⟩;simp only at a8 o;have l7:=(Lb.new w.lt w.fp (Z 11 1 [h.t])).step a8;have ca:=(a7.trans (Step.cons w.ok w.lt _)).trans a8;have⟨eV,eU,c1,sv,c6,S,E,M,gA,dm,dk,dd,de,di⟩:=o.ex;have bz:∀r,GN r->yl ⟨K,c,n,m,l⟩ [.ptr m 0 0 0,sl (l.map dH.t)] p r (lM p u):=λr hr=>⟨hr,ca.out,o.out dq⟩;have av:=ij (a:=(c.length:Int)) (b:=1) B B;simp[d,f,i,M,gA.len (cx:=cx),av,l7.get];refine dV (λs=>?_) (λs=>?_)
  ·simp[d,f,i,l7.get];exact bz _ J
  have eM:c.length<=5:=by simp at s;omega
  simp[d,f,i,l7.get];refine dV (λs=>?_) (λs=>?_)
  ·simp[d,f,i,l7.get];exact bz _ J
  have er:(m=u.size)=False:=by simp;have:=o.lt;omega
  have ds:(I.size=u.size)=False:=by simp;have:=l7.lt;omega
  have ce:=o.cons (Z 11 0 [.agg [D 0,D 0,.str [],.str [],dw,D 0,D 0,.str [],dw,dw,dw]]);have ey:=ca.trans (Step.cons o.ok o.lt (Z 11 0 [.agg [D 0,D 0,.str [],.str [],dw,D 0,D 0,.str [],dw,dw,dw]]));have c9:=(show(u.cons (Z 11 0 [.agg [D 0,D 0,.str [],.str [],dw,D 0,D 0,.str [],dw,dw,dw]])).get m=u.get m by rw[dO,ao (by have:=o.lt;omega)]).trans M;have N:∀{v:T} {cb:Nat} {bu:List T},v=c1\/v=sv\/v=c6->Gr u v cb bu->Gr (u.cons (Z 11 0 [.agg [D 0,D 0,.str [],.str [],dw,D 0,D 0,.str [],dw,dw,dw]])) v cb bu:=λeh g=>g.mono λb av=>by
   have:b<u.size:=o.fp b (r9 M (v:=_) (by rcases eh with rfl|rfl|rfl<;>simp[eY,T.cells]) av);rw[dO,ao B]
  have⟨U,eL,bs,bn⟩:=(N J gA).app (cx:=cx) ce.ok (x:= .arr u.size 0 0 1 false) (xs:=[.agg [D 0,D 0,.str [],.str [],dw,D 0,D 0,.str [],dw,dw,dw]]) yK rfl yI yK rfl rfl J (by rw[gh];simp) (by simp[T.cells]) J dp;obtain⟨b,eH,eW,eI,rfl,O,eN⟩:=id bn;have a2:=bn.set O c.length h.t;have bS:(List.map dH.t c++[T.agg [D 0,D 0,.str [],.str [],dw,D 0,D 0,.str [],dw,dw,dw]]).set c.length h.t=List.map dH.t c++[h.t]:=by simp[List.set_append]
  rw[bS]at a2;simp only[bh,aG,aY,cK]at a2 bs;have⟨R,et,b8,eu⟩:=ce.Xa c9 (N J gA) (N J dm) (N J dk) dd de di a2;have bN:b≠m:=λq=>by subst q;rw[dF O,aq rfl]at R;simp at R
  have b7:=(l7.step (Step.cons o.ok o.lt _)).step b8;simp[d,f,i,M,l7.get,gA.len (cx:=cx),er,ds,bs,O,dN,bS,R,et,Ap R _ bN,Ap O _ (aW bN),b7.get];refine iD b6 J ⟨K,c++[h],n+dH.ws (l.take j)+1,m,h.body⟩ ⟨⟨rfl,eu,Q,dq,dq,dp,aX.bd,P⟩,dq⟩ ?_;rintro _ dn ⟨⟨eE,eR,rfl⟩,bi,bl⟩;simp only at bi bl;have eA:=ey.trans b8;have l4:=b7.step bi;have FO:=eA.trans bi;simp[d,f,i];refine dV (λs=>?_) (λs=>?_)
  ·simp[d,f,i,l4.get];refine iD b6 J ⟨K,c++[h],n+dH.ws (l.take j)+1+dH.ws h.body,m,h.LV⟩ ⟨⟨rfl,bl,Q,dq,dq,dp,aX.el,P⟩,dq⟩ ?_;rintro _ ap ⟨⟨eF,eS,rfl⟩,b9,G⟩;simp only at b9 G;replace FO:=FO.trans b9;simp[d,f,i];have⟨eD,eC,c4,eB,c7,cL,cp,y,H,an,al,W,X,ae⟩:=G.ex;have⟨U,V,k,aA⟩:=H.cut (cx:=cx) (ty:=FJ) (te:=FI) rfl yI rfl (n:=c.length) J J;have k:Gr ap U 11 (c.map dH.t):=by rw[List.map_append,cP J]at k;rwa[bA J]at k
   have⟨L,A⟩:=G.back y an al W X ae k aA;have ea:(c++[h]).length=c.length+1:=J;have z:=kP (a:=((c++[h]).length:Int)) (b:=1) B B;have aE:((c++[h]).length:Int)-1=(c.length:Int):=J;rw[aE]at z;simp[d,f,i,y,H.len (cx:=cx)];simp at z;simp[z,V,k.fg,k.cells,dN,y];refine dV (λs=>?_) (λs=>?_)
   ·simp;exact⟨J,(FO.trans L).out,A.out dq⟩
   ·simp[d,f,i,bH];exact⟨FO.trans L,by rw[bT];exact A.same B A.ok (λ_ _=>rfl) (au _)⟩
  ·have G:=bl;generalize dn=ap at*
   simp[d,f,i];have⟨eD,eC,c4,eB,c7,cL,cp,y,H,an,al,W,X,ae⟩:=G.ex;have⟨U,V,k,aA⟩:=H.cut (cx:=cx) (ty:=FJ) (te:=FI) rfl yI rfl (n:=c.length) J J;have k:Gr ap U 11 (c.map dH.t):=by rw[List.map_append,cP J]at k;rwa[bA J]at k
   have⟨L,A⟩:=G.back y an al W X ae k aA;have ea:(c++[h]).length=c.length+1:=J;have z:=kP (a:=((c++[h]).length:Int)) (b:=1) B B;have aE:((c++[h]).length:Int)-1=(c.length:Int):=J;rw[aE]at z;simp[d,f,i,y,H.len (cx:=cx)];simp at z;simp[z,V,k.fg,k.cells,dN,y];refine dV (λs=>?_) (λs=>?_)
   ·simp;exact⟨J,(FO.trans L).out,A.out dq⟩
   ·simp[d,f,i,bH];exact⟨FO.trans L,by rw[bT];exact A.same B A.ok (λ_ _=>rfl) (au _)⟩
 ·rintro F I ⟨a7,w,d,f,i⟩;rw[aJ]at w;simp[d,f,i];exact⟨J,a7.out,w.out (au _)⟩
def DW:mW prog cx 153 (λa:List gU=>[sl (a.map gU.t)]) (λa=>a.length<=1000000) (λ_=>GN):=by
 refine iS [(209,nd)] (iP 1242795222330225588904675325 [] func153) (λK=>1000005) (λC E c=>jt (λ_ _=>gU.inj) (by simpa using c)) ?_;rintro a hl b m;simp at m;simp[f153,m];refine fc a.length B (λx b c=>gH 0 c/\dy b 0 (sl (a.map gU.t))/\(∃d,dy b 4 (D d))/\(∃d,dy b 5 (D d))/\(∃d,dy b 6 (D d))/\(∃d,dy b 7 (D d))/\dy b 8 (D x)) ?_ ?_ B (by simp[m];exact⟨J,J,J⟩)
 ·rintro i b c j s ⟨e,f,⟨F,n⟩,⟨G,o⟩,⟨H,q⟩,⟨I,r⟩,g⟩;have l:=λ{z:fw} (c:z.p 209=some nd) A=>Be c (a.take i) A (by rw[List.length_take];omega);simp[f,g,j,e.low,l,bm j];rcases Fs ((a.take i).map gU.name) a[i].on 0 with k|⟨y,v,k⟩
  ·generalize a[i]=u at*
   repeat' (refine dV (λh=>?_) (λh=>?_)<;>simp[h,f,n,o,q,r,g,e.hp,e.cons,l,bm j,nG,s,k])
  ·simp at v k;have w:y<a.length:=B;generalize a[i]=u at*
   repeat' (refine dV (λh=>?_) (λh=>?_)<;>simp[h,f,n,o,q,r,g,e.hp,e.cons,l,bm j,nG,s,k,w])
 ·rintro b c ⟨e,f,_,_,_,_,g⟩;simp[f,g,e.hp]
def Iq(a:fx):Prop:=Qx a/\(a.dC.map λb=>dH.ws b.body).sum<=1000000/\(∀b∈a.dC,∀d∈b.body,MS d)/\∃c,c<a.jc.length/\rm (a.jc.map gU.name) [99] 0=c
def ph(a:List fJ):Nat:=(a.map λb=>dH.ws b.body).sum
def jK:mW prog cx 104 (λa:fx=>[a.t]) Iq (λ_=>GN):=by
 have a7:=yY (λi:Jt=>dH.ws i.l) PG 1000001;refine xN (tb:=⟨pt [(152,Gf.ji),(153,DW.ji),(154,Ax.ji),(155,JT.ji)],ht [(156,jr Jt (λi C b=>EE i C b/\dH.ws i.l<1000001) yl)]⟩) iB gW (iP 19342850151455133005856767 [] func104) (λa=>1000005) (λC j b=>by simp at b;exact fx.inj b) J nl9 ?_;rintro a ⟨m,aN,ap,av⟩ d G;simp at G;obtain⟨_,⟨bl,rfl⟩,O⟩:=Gf.use a m;obtain⟨_,⟨bB,bH,rfl⟩,P⟩:=DW.use a.jc m.1;obtain⟨_,⟨bC,bN,rfl⟩,Q⟩:=Ax.use a m;have hl:=m.2.1;simp[f104,G,O];refine dV (λg=>?_) (λg=>?_)
 ·simp
 simp[P];refine dV (λg=>?_) (λg=>?_)
 ·simp
 simp;refine dV (λg=>?_) (λg=>?_)
 ·simp
 simp[Q];refine dV (λg=>?_) (λg=>?_)
 ·simp
 simp;refine fc a.dC.length B (λp d b=>b=hE.cons (Z 2 0 [a.t])/\dy d 1 (.ptr 0 0 0 0)/\(∃r,dy d 8 (D r))/\dy d 9 (D p)) ?_ ?_ B J
 ·rintro i d b k x ⟨rfl,f,⟨r,u⟩,w⟩;obtain⟨_,⟨c,rfl⟩,R⟩:=JT.use a.dC[i].body (by have:=(m.2.2 _ (aD k)).2;omega);simp[f,u,w,k,R,nG,x]
 rintro d b ⟨rfl,f,⟨r,u⟩,w⟩;simp[f,u,w];refine dV (λg=>?_) (λg=>?_)
 ·simp
 simp[f];have aE:∀{i:Nat} (K:i<a.dC.length),ph (a.dC.take (i+1))=ph (a.dC.take i)+dH.ws a.dC[i].body:=λ{i} K=>by
  unfold ph;rw[aT K,List.map_append,List.sum_append];simp
 have aA:∀i,ph (a.dC.take i)<=1000000:=λi=>by
  have:ph a.dC<=1000000:=aN;have an:ph a.dC=ph (a.dC.take i)+ph (a.dC.drop i):=by unfold ph;rw[<-List.sum_append,<-List.map_append,cF]
  omega
 refine fc a.dC.length B (λp d b=>Wk a [] (ph (a.dC.take p)) b 1/\Lb 1 b 0 (Z 2 0 [a.t])/\dy d 1 (.ptr 0 0 0 0)/\dy d 10 (.ptr 1 0 0 0)/\dy d 11 (D p)) ?_ ?_ B ?_
 ·rintro i d b k x ⟨s,q,f,n,o⟩;have al:=aE k;have bs:=aA (i+1);have⟨bz,bu,bk,sv,bn,S,E,F,gA,ae,X,U,V,W⟩:=s.ex;have⟨a8,bi⟩:=s.dQ F gA ae X U V W i;have M:=q.step a8;simp[q.get,f,n,o,k,F,dN,M.get];refine iD a7 J ⟨a,[],ph (a.dC.take i),1,a.dC[i].body⟩ ⟨⟨rfl,bi,m,dq,dq,J,ap _ (aD k),av⟩,dq⟩ ?_;rintro _ an ⟨⟨e,r,rfl⟩,N,A⟩;simp only at N A;have aX:=M.step N;simp[f,n,o];refine dV (λg=>?_) (λg=>?_)
  ·simp[A.ok.hp]
  ·simp[f,n,o,x];exact⟨by rw[al];exact A,aX⟩
 ·rintro d b ⟨s,q,f,n,o⟩;simp[q.get,f,n,o,s.ok.hp]
 ·have I:((hE.cons (Z 2 0 [a.t])).cons (Z 6 0 [.agg [sl (a.jc.map gU.t),sl (a.dC.map fJ.t),D 0,dw,dw,dw]])).get 1=some (Z 6 0 [.agg [sl (a.jc.map gU.t),sl (a.dC.map fJ.t),D 0,dw,dw,dw]]):=J;have H:∀j,Fp ((hE.cons (Z 2 0 [a.t])).cons (Z 6 0 [.agg [sl (a.jc.map gU.t),sl (a.dC.map fJ.t),D 0,dw,dw,dw]])) 1 j->j=1:=λj h=>by
   rcases h with rfl|⟨z,y,v,L,h⟩
   ·rfl
   ·rw[I]at y;simp only[ar]at y;subst y;simp[eY,T.cells]at L;rcases L with rfl|rfl|rfl|rfl|rfl|rfl<;>simp at h
  simp[f];exact⟨⟨⟨J,J,J⟩,λj h=>by rw[H j h];simp,0,0,_,_,_,[],[],I,Gr.nil _ _,Gr.nil _ _,Gr.nil _ _,J,J,J⟩,J,λh=>absurd (H 0 h) dt⟩
