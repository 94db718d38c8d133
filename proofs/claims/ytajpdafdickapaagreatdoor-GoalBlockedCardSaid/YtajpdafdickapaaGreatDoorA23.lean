/- W04b -/
import Derived.Test.YtajpdafdickapaaGreatDoorA19
set_option linter.all false
set_option maxRecDepth 100000
set_option maxHeartbeats 8000000
namespace Go.Proofs.YtajpdafdickapaaGreatDoor
noncomputable section
open Go Go.TI Tryz
attribute [-simp] List.map_take List.map_drop List.map_append fy fa eg Bool.not_or Bool.not_and
attribute [simp] fw fc
def VS(a:H)(j:Nat):Prop:=∃i d e f c g h,∃b:List dO,a.get j=some (dE 6 i [.agg [d,e,f,c,g,h]])/\Gr a c 11 (b.map dO.t)/\b.length<=1000000/\il 0 a
def Gi:li:=⟨λd a=>∃b c e h,d=[.ptr b 0 0 0,Z c,Z e,.str h]/\VS a b,λ_ a g f=>f=a/\FS g⟩
def Qd:Gi.Ok prog cx 232:=by
 refine Jy (tb:=⟨pt [],ht []⟩) iR iE (iX 70368744310543 [] func232) false (λ_ _=>1000005) (λO b M=>by obtain⟨g,y,e,G,rfl,_⟩:=M;simp[f232]) ?_;rintro _ b ⟨g,y,e,G,rfl,ae,P,Q,R,z,S,T,h,s,n,hl,v⟩ d B;simp at B;obtain⟨f,i,j,k⟩:=B;have u:=H.fh s;simp[f232];refine fD h.length J (λo d c=>Fr b.size (hr b) c/\il 0 c/\dF d 0 (.ptr g 0 0 0)/\dF d 1 (Z y)/\dF d 2 (Z e)/\dF d 3 (.str G)/\dF d 9 (Z o)) ?_ ?_ J (by simp[f,i,j,k,Fr.refl,v.hr])
 ·rintro o d c D K ⟨a,w,f,i,j,k,m⟩;have p:=(a.get g u).trans ((ik b g).trans s);have l:Gr c z 11 (h.map dO.t):=n.mono λe q=>by have⟨_,_,_,_,x,_⟩:=n.box q;rw[a.get e (H.fh x),ik]
  have L:o<(h.map dO.t).length:=by simpa using D
  have⟨I,U,al,V,an,X,N,E,F⟩:=l.Bp (te:=HH) rfl L;have W:=Nat.ne_of_lt (bD u a.size);simp at F;have Y:(I=c.size)=False:=by simp;have:=H.fh E;omega
  simp[f,i,j,k,m,p,l.len (cx:=cx),N,E,F,D,w.low];have A:=a.trans (Fr.cons (lo:=b.size) (by have:b.size<=c.size:=a.size;omega) (dE 11 1 [h[o].t]))
  repeat' (refine ej (λC=>?_) (λC=>?_)<;>simp[C,f,i,j,k,m,K,A,w.cons])
  exact qD b _ _ v.hp A (r:= .bool true) rfl ⟨rfl,dy⟩
 ·rintro d c ⟨a,w,f,i,j,k,m⟩;have p:=(a.get g u).trans ((ik b g).trans s);have l:Gr c z 11 (h.map dO.t):=n.mono λe q=>by have⟨_,_,_,_,x,_⟩:=n.box q;rw[a.get e (H.fh x),ik]
  simp[f,m,p,l.len (cx:=cx)];exact qD b _ _ v.hp a (r:= .bool false) rfl ⟨rfl,dy⟩
structure Wk(p:fN)(A:List dO)(n:Nat)(h:H)(w:Nat):Prop where
 ok:il 0 h
 fp:∀b,Fp h w b->b<h.size
 ex:∃ver t av sv ev,∃S E:List (List Nat),h.get w=some (dE 6 ver [.agg [sl (p.js.map iA.t),sl (p.dH.map fP.t),Z t,av,sv,ev]])/\
  Gr h av 11 (A.map dO.t)/\Gr h sv 1 (S.map T.str)/\Gr h ev 1 (E.map T.str)/\S.length<=n/\E.length<=n/\∀b,dT sv=some b->dT ev≠some b
def Wk.ins{k:fN}{a:List dO}{j:Nat}{b:H}{d:Nat}(c:Wk k a j b d)(i:a.length<=1000000):VS b d:=by
 have⟨l,o,e,sv,f,n,m,g,h,_⟩:=c.ex;exact⟨l,_,_,_,e,sv,f,a,g,h,i,c.ok⟩
def tP{c:H}{d:Nat}{a:iY}(f:c.get d=some a){v:T}(g:v∈fF a.fg){b:Nat}(e:dT v=some b):Fp c d b:= .inr ⟨a,f,v,g,e⟩
def Wk.same{m:fN}{h:List dO}{l k:Nat}{c d:H}{g:Nat}(j:Wk m h l c g)(B:l<=k)(w:il 0 d)(f:∀a,Fp c g a->d.get a=c.get a)(v:c.size<=d.size):Wk m h k d g:=by
 have⟨y,x,p,sv,q,o,n,e,r,s,t,z,A,u⟩:=j.ex;have i:=f g (.inl rfl);refine⟨w,λa b=>by rw[iT i]at b;exact bD (j.fp a b) v,y,x,p,sv,q,o,n,by rw[i];exact e,?_,?_,?_,J,J,u⟩
 ·exact r.mono λa b=>f a (tP e (by simp[fF,T.cells]) b)
 ·exact s.mono λa b=>f a (tP e (by simp[fF,T.cells]) b)
 ·exact t.mono λa b=>f a (tP e (by simp[fF,T.cells]) b)
def Wk.lt{f:fN}{c:List dO}{e:Nat}{b:H}{a:Nat}(d:Wk f c e b a):a<b.size:=d.fp a (.inl rfl)
theorem Wk.cons{e:fN}{b:List dO}{d:Nat}{c:H}{w:Nat}(a:Wk e b d c w)(f:iY):Wk e b d (c.cons f) w:=
 a.same (aw _) (a.ok.cons f) (λg h=>by rw[dS,aq (by have:=a.fp g h;omega)]) dy 
def Wk.hr{e:fN}{b:List dO}{d:Nat}{a:H}{f:Nat}(c:Wk e b d a f):Wk e b d (TI.hr a) f:=c.same (aw _) c.ok.hr (λg _=>ik a g) (aw _)
def Wk.out{e:fN}{b:List dO}{d m:Nat}{h a:H}{f:Nat}(c:Wk e b d a f)(i:d<=m):Wk e b m (md h a) f:=c.same i (c.ok.out h) (λg _=>fV h a g) (aw _)
def Wk.spawn{a:fN}{m:List dO}{k d h:Nat}{c f:H}{g:Int}{e sv b l:T}{j n:List (List Nat)}{w:List Nat}(u:Wk a m k c d)(o:c.get d=some (dE 6 h [.agg [sl (a.js.map iA.t),sl (a.dH.map fP.t),Z g,e,sv,b]]))
 (gA:Gr c e 11 (m.map dO.t)) (s:Gr c sv 1 (j.map T.str)) (C:Gr c b 1 (n.map T.str)) (F:j.length<=k) (G:n.length<=k) (B:∀r,dT sv=some r->dT b≠some r) (D:Cg c sv 1 (j.map T.str++[.str w]) l f):
 f.get d=some (dE 6 h [.agg [sl (a.js.map iA.t),sl (a.dH.map fP.t),Z g,e,sv,b]])/\fk c f d=true/\
  Step d c (dZ f d (dE 6 (h+1) [.agg [sl (a.js.map iA.t),sl (a.dH.map fP.t),Z g,e,l,b]]))/\
  Wk a m (k+1) (dZ f d (dE 6 (h+1) [.agg [sl (a.js.map iA.t),sl (a.dH.map fP.t),Z g,e,l,b]])) d:=by
 have⟨p,E⟩:=xm (i:=4) u.ok u.fp o rfl dB s D.xt;have⟨q,z,A,v⟩:=E _ rfl;have⟨a1,a2⟩:=v e 11 _ dy gA (s.ne gA dB) dB;have⟨x,y⟩:=v b 1 _ dy C B dB;exact⟨p.trans o,fG p,q,⟨q.ok.hp,q.ok.low,ax _⟩,z,h+1,g,e,l,b,j++[w],n,by rw[dN (p.trans o),ar rfl],a1,by rw[List.map_append];exact A,x,dz,J,y⟩
def Wk.set{a:fN}{o:List dO}{m c k:Nat}{b h:H}{j:Int}{d sv g n:T}{p l:List (List Nat)}{x:List Nat}(f:Wk a o m b c)(q:b.get c=some (dE 6 k [.agg [sl (a.js.map iA.t),sl (a.dH.map fP.t),Z j,d,sv,g]]))
 (gA:Gr b d 11 (o.map dO.t)) (D:Gr b sv 1 (p.map T.str)) (v:Gr b g 1 (l.map T.str)) (G:p.length<=m) (I:l.length<=m) (C:∀e,dT sv=some e->dT g≠some e) (E:Cg b g 1 (l.map T.str++[.str x]) n h):
 h.get c=some (dE 6 k [.agg [sl (a.js.map iA.t),sl (a.dH.map fP.t),Z j,d,sv,g]])/\fk b h c=true/\
  Step c b (dZ h c (dE 6 (k+1) [.agg [sl (a.js.map iA.t),sl (a.dH.map fP.t),Z j,d,sv,n]]))/\
  Wk a o (m+1) (dZ h c (dE 6 (k+1) [.agg [sl (a.js.map iA.t),sl (a.dH.map fP.t),Z j,d,sv,n]])) c:=by
 have⟨s,F⟩:=xm (i:=5) f.ok f.fp q rfl dB v E.xt;have⟨u,A,B,w⟩:=F _ rfl;have⟨a1,a2⟩:=w d 11 _ dy gA (v.ne gA dB) dB;have⟨y,z⟩:=w sv 1 _ dy D (λe r f=>C e f r) dB;exact⟨s.trans q,fG s,u,⟨u.ok.hp,u.ok.low,ax _⟩,A,k+1,j,d,sv,n,p,l++[x],by rw[dN (s.trans q),ar rfl],a1,y,by rw[List.map_append];exact B,J,dz,λe r f=>z e f r⟩
def Wk.Yk{a:fN}{h:List dO}{k d g:Nat}{c e:H}{f:Int}{j sv b l:T}{n m:List (List Nat)}{x:dO}(v:Wk a h k c d)(o:c.get d=some (dE 6 g [.agg [sl (a.js.map iA.t),sl (a.dH.map fP.t),Z f,j,sv,b]]))
 (gA:Gr c j 11 (h.map dO.t)) (u:Gr c sv 1 (n.map T.str)) (s:Gr c b 1 (m.map T.str)) (B:n.length<=k) (C:m.length<=k) (D:∀r,dT sv=some r->dT b≠some r) (E:Cg c j 11 (h.map dO.t++[x.t]) l e):
 e.get d=some (dE 6 g [.agg [sl (a.js.map iA.t),sl (a.dH.map fP.t),Z f,j,sv,b]])/\fk c e d=true/\
  Step d c (dZ e d (dE 6 (g+1) [.agg [sl (a.js.map iA.t),sl (a.dH.map fP.t),Z f,l,sv,b]]))/\
  Wk a (h++[x]) k (dZ e d (dE 6 (g+1) [.agg [sl (a.js.map iA.t),sl (a.dH.map fP.t),Z f,l,sv,b]])) d:=by
 have⟨p,F⟩:=xm (i:=3) v.ok v.fp o rfl dB gA E.xt;have⟨q,z,A,w⟩:=F _ rfl;have⟨a1,a2⟩:=w sv 1 _ dy u (gA.ne u dB) dB;have⟨y,G⟩:=w b 1 _ dy s (gA.ne s dB) dB;exact⟨p.trans o,fG p,q,⟨q.ok.hp,q.ok.low,ax _⟩,z,g+1,f,l,sv,b,n,m,by rw[dN (p.trans o),ar rfl],by rw[List.map_append];exact A,a1,y,B,C,D⟩
def Wk.back{b:fN}{p:List dO}{o i k:Nat}{d:H}{j:Int}{m sv f h:T}{r q:List (List Nat)}{G:dO}(g:Wk b (p++[G]) o d i)(c:d.get i=some (dE 6 k [.agg [sl (b.js.map iA.t),sl (b.dH.map fP.t),Z j,m,sv,f]]))
 (E:Gr d sv 1 (r.map T.str)) (D:Gr d f 1 (q.map T.str)) (A:r.length<=o) (B:q.length<=o) (C:∀e,dT sv=some e->dT f≠some e) (gA:Gr d h 11 (p.map dO.t)) (n:dT h=dT m):
   Step i d (dZ d i (dE 6 (k+1) [.agg [sl (b.js.map iA.t),sl (b.dH.map fP.t),Z j,h,sv,f]]))/\
   Wk b p o (dZ d i (dE 6 (k+1) [.agg [sl (b.js.map iA.t),sl (b.dH.map fP.t),Z j,h,sv,f]])) i:=by
 have w:=Step.put g.ok c (dE 6 (k+1) [.agg [sl (b.js.map iA.t),sl (b.dH.map fP.t),Z j,h,sv,f]]) (λv l e a=>by
  simp[fF,T.cells]at l;rcases l with rfl|rfl|rfl|rfl|rfl|rfl
  ·simp at a
  ·simp at a
  ·simp at a
  ·exact .inl (tP c (v:=m) (by simp[fF,T.cells]) (by rw[<-n];exact a))
  ·exact .inl (tP c (v:=v) (by simp[fF,T.cells]) a)
  ·exact .inl (tP c (v:=v) (by simp[fF,T.cells]) a))
 have u:∀{v:T} {x:Nat} {y:List T},Gr d v x y->x≠6->Gr (dZ d i (dE 6 (k+1) [.agg [sl (b.js.map iA.t),sl (b.dH.map fP.t),Z j,h,sv,f]])) v x y:=λz F=>z.mono λe n=>by
  have⟨_,_,_,_,a,_⟩:=z.box n;rw[dN c,aq (λg=>by subst g;rw[c]at a;simp at a;exact F a.1.symm)]
 refine⟨w,⟨w.ok.hp,w.ok.low,ax _⟩,λe a=>?_,k+1,j,h,sv,f,r,q,by rw[dN c,ar rfl],u gA dB,u E dB,u D dB,A,B,C⟩;rw[fK];rcases a with rfl|⟨I,s,v,l,a⟩
 ·exact g.lt
 rw[dN c,ar rfl]at s;simp only[au]at s;subst s;simp[fF,T.cells]at l;rcases l with rfl|rfl|rfl|rfl|rfl|rfl
 ·simp at a
 ·simp at a
 ·simp at a
 ·exact g.fp e (tP c (v:=m) (by simp[fF,T.cells]) (by rw[<-n];exact a))
 ·exact g.fp e (tP c (v:=v) (by simp[fF,T.cells]) a)
 ·exact g.fp e (tP c (v:=v) (by simp[fF,T.cells]) a)
def Wk.dP{b:fN}{n:List dO}{m h k:Nat}{d:H}{G:Int}{f sv e:T}{p o:List (List Nat)}(l:Wk b n m d h)(g:d.get h=some (dE 6 k [.agg [sl (b.js.map iA.t),sl (b.dH.map fP.t),Z G,f,sv,e]]))
 (gA:Gr d f 11 (n.map dO.t)) (D:Gr d sv 1 (p.map T.str)) (C:Gr d e 1 (o.map T.str)) (z:p.length<=m) (A:o.length<=m) (B:∀c,dT sv=some c->dT e≠some c) (j:Int):
   Step h d (dZ d h (dE 6 (k+1) [.agg [sl (b.js.map iA.t),sl (b.dH.map fP.t),Z j,f,sv,e]]))/\
   Wk b n m (dZ d h (dE 6 (k+1) [.agg [sl (b.js.map iA.t),sl (b.dH.map fP.t),Z j,f,sv,e]])) h:=by
 have y:∀v∈ [sl (b.js.map iA.t),sl (b.dH.map fP.t),Z j,f,sv,e],∀c,dT v=some c->Fp d h c:=λv i c a=>by
  simp at i;rcases i with rfl|rfl|rfl|rfl|rfl|rfl
  ·simp at a
  ·simp at a
  ·simp at a
  ·exact tP g (v:=v) (by simp[fF,T.cells]) a
  ·exact tP g (v:=v) (by simp[fF,T.cells]) a
  ·exact tP g (v:=v) (by simp[fF,T.cells]) a
 have s:=Step.put l.ok g (dE 6 (k+1) [.agg [sl (b.js.map iA.t),sl (b.dH.map fP.t),Z j,f,sv,e]]) (λv i c a=> .inl (y v (by simpa[fF,T.cells]using i) c a));have r:∀{v:T} {u:Nat} {w:List T},Gr d v u w->u≠6->Gr (dZ d h (dE 6 (k+1) [.agg [sl (b.js.map iA.t),sl (b.dH.map fP.t),Z j,f,sv,e]])) v u w:=λx F=>x.mono λc E=>by
  have⟨_,_,_,_,a,_⟩:=x.box E;rw[dN g,aq (λl=>by subst l;rw[g]at a;simp at a;exact F a.1.symm)]
 refine⟨s,⟨s.ok.hp,s.ok.low,ax _⟩,λc a=>?_,k+1,j,f,sv,e,p,o,by rw[dN g,ar rfl],r gA dB,r D dB,r C dB,z,A,B⟩;rw[fK];rcases a with rfl|⟨I,q,v,i,a⟩
 ·exact l.lt
 rw[dN g,ar rfl]at q;simp only[au]at q;subst q;exact l.fp c (y v (by simpa[fF,T.cells]using i) c a)
structure Yu where
 (p:fN) (A:List dO) (n w:Nat) (s:dO)
def Wv(a:Yu)(c:List T)(d:H):Prop:=c=[.ptr a.w 0 0 0,a.s.t]/\Wk a.p a.A a.n d a.w/\SE a.p/\a.n<=10000000/\a.s.w<=1000000/\a.A.length<=1000000/\
 (9<=a.s.op/\a.s.op<=11->∃b,b<a.p.js.length/\sN (a.p.js.map iA.name) a.s.name 0=b)
def Lw(a:Yu)(e:List T)(c:H)(d:T)(b:H):Prop:=FR d/\Step a.w c b/\Wk a.p a.A (a.n+1) b a.w
noncomputable abbrev aaR:li:=jM Yu Wv Lw
def abc:aaR.Ok prog cx 195:=by
 obtain⟨L,di⟩:=hlB Qd (λ_ _ _ _ o=>o);refine jB (tb:=⟨pt [(234,AD.jv),(235,Dq.jv),(233,WJ.jv),(236,FD.jv),(130,Dc),(193,om),(194,ma)],ht [(232,Gi)]⟩) iR iE (iX 14474012017383023515249485065460760621927424225494418519668988771800801378299 [(1,[(7,9)]),(8,[(4,5),(4,8)]),(9,[(4,5),(4,8),(4,9),(4,10),(4,12),(11,12),(4,15),(11,15)]),(28,[(2,7)]),(49,[(4,5),(4,8)])] func195) (λ_ _=>5) (λi l h ds=>by obtain⟨rfl,_⟩:=ds;simp[f195]) ?_;rintro⟨d,A,n,f,a⟩ _ h ⟨rfl,k,y,dn,dv,bu,bH⟩ eE bB;simp only at k y dn dv bu bH;simp at bB;obtain⟨F,de⟩:=bB;have s:=(k.hr.cons (dE 11 0 [a.t])).cons (dE 2 1 [d.t]);have H:Step f h (md h (((hr h).cons (dE 11 0 [a.t])).cons (dE 2 1 [d.t]))):=
  ((Step.cons k.ok.hr k.lt _).trans (Step.cons (k.hr.cons _).ok (k.hr.cons _).lt _)).out
 have ef:Step f (hr h) (((hr h).cons (dE 11 0 [a.t])).cons (dE 2 1 [d.t])):=(Step.cons k.ok.hr k.lt _).trans (Step.cons (k.hr.cons _).ok (k.hr.cons _).lt _);have I:=s.out (h:=h) (m:=n+1) J;have N:∀o:Int,9<=o/\o<=11->decide (a.op=o)=true->∃m:Nat,m<d.js.length/\sN (d.js.map iA.name) a.name 0=m:=λo ey O=>bH (by simp at O;omega);have ae:=λ{tb:fJ} (ht:tb.h 232=some Gi) l b z=>di ht [.ptr f 0 0 0,Z l,Z b,.str z] _ ⟨f,l,b,z,rfl,s.ins bu⟩;have eA:=k.lt;have bN:(f=h.size)=False:=dz;have bS:(f=h.size+1)=False:=dz;have c9:(((hr h).cons (dE 11 0 [a.t])).cons (dE 2 1 [d.t])).get f=h.get f:=by simp[bN,bS]
 obtain⟨eD,z,b8,sv,c4,S,E,w,gA,bs,bn,a6,a7,a8⟩:=s.ex;have aX:=c9.symm.trans w;have c7:=bs.rS dy;have c6:=bn.rS dy;have cL:=λ{tb:fJ} (h:tb.p 130=some Dc) x=>Ot h S x J;have cp:=λ{tb:fJ} (h:tb.p 130=some Dc) x=>Ot h E x J;obtain⟨Nw,U⟩:=AD.fnI (λc:List Nat×Int×Int=>(d,z,c)) (λ_=>y);have U:=λ{tb:fJ} (ht:tb.p 234=some AD.jv) x l b=>U ht (x,l,b);obtain⟨eo,aE⟩:=FD.fnI (λb:Bool=>b) (λ_=>trivial);have R:∀{tb:fJ},tb.p 233=some WJ.jv->∀l b,rl prog cx tb 233 [Z l,Z b]=some (Z (if l=0 then b else l)):=λht l b=>by
  obtain⟨_,rfl,O⟩:=WJ.use (l,b) trivial;exact O ht
 have ea:=a.lF;obtain⟨_,⟨eB,rfl⟩,Q⟩:=Dq.use (d,z,a.e) ⟨y,dA⟩;have eT:=λ{tb:fJ} (h:tb.p 194=some ma) x=>xz h d.dH x (by have:=y.2.1;omega);have cb:=λ{tb:fJ} (h:tb.p 193=some om) x=>CC h d.js x (by have:=y.1;omega);simp[f195,F,de,aX,bN,bS,ae];have u:(((hr h).cons (dE 11 0 [a.t])).cons (dE 2 1 [d.t])).get h.size=some (dE 11 0 [a.t]):=dy;have M:(((hr h).cons (dE 11 0 [a.t])).cons (dE 2 1 [d.t])).get (h.size+1)=some (dE 2 1 [d.t]):=dy;have G:(((hr h).cons (dE 11 0 [a.t])).cons (dE 2 1 [d.t])).size=h.size+2:=dy;generalize(((hr h).cons (dE 11 0 [a.t])).cons (dE 2 1 [d.t]))=j at*
 generalize L [T.ptr f 0 0 0,T.int IntKind.i64 7,T.int IntKind.i64 7,T.str []] j=er;generalize L [T.ptr f 0 0 0,T.int IntKind.i64 8,T.int IntKind.i64 8,T.str []] j=et;generalize L [T.ptr f 0 0 0,T.int IntKind.i64 3,T.int IntKind.i64 3,T.str []] j=eu;have V:=(show(j.cons (dE 1 0 [.str a.name])).get f=j.get f from by rw[dS,aq J]).trans w;have K:=s.cons (dE 1 0 [.str a.name]);have b6:=ef.trans (Step.cons s.ok s.lt (dE 1 0 [.str a.name]));have Y:∀{v:T} {b7:Nat} {aN:List T},v=b8\/v=sv\/v=c4->Gr j v b7 aN->Gr (j.cons (dE 1 0 [.str a.name])) v b7 aN:=λeb g=>g.mono λb bC=>by
  have:b<j.size:=s.fp b (tP w (v:=_) (by rcases eb with rfl|rfl|rfl<;>simp[fF,T.cells]) bC);rw[dS,aq J]
 have X:=Y dy bs;have W:=Y dy bn;have bi:=Y dy gA
 repeat' (refine ej (λq=>?_) (λq=>?_)<;>simp[q,F,w,u,M,ae,U,aE,R,Q,eT,cb,Lw,H,I])
 ·cases al:a.index with
  |nil=>rename_i q;simp[al]at q
  |cons x r=>
   obtain⟨_,⟨eC,rfl⟩,c1⟩:=Dq.use (d,z,x) ⟨y,by simp only;rw[al,dU.ke]at ea;omega⟩;simp[u,M,R,Q,H,I,al,c1]
 iterate 3
  ·obtain⟨m,dk,dm⟩:∃m,m<d.js.length/\sN (d.js.map iA.name) a.name 0=m:=by first|exact N 9 J (by assumption)|exact N 10 J (by assumption)|exact N 11 J (by assumption)
   simp[u,ae,aE,H,I,dk,dm]
 ·simp[c7,cL];refine ej (λq=>?_) (λq=>?_)
  ·simp[H,I]
  obtain⟨eh,dd,P,B⟩:=X.app (cx:=cx) K.ok (x:= .arr (h.size+2) 0 0 1 false) (xs:=[.str a.name]) qY rfl wO qY rfl rfl dy (by rw[ig];simp[G]) (by simp[T.cells]) dy dz;obtain⟨an,ec,D,ap⟩:=K.spawn V bi X W a6 a7 a8 B;have C:=B.gr;have av:=(b6.trans D).out;have aA:=ap.out (h:=h) (aw _);simp[F,w,u,G,P,an,C.iy,C.cells,dX,av,aA]
 ·obtain⟨eh,dd,P,B⟩:=W.app (cx:=cx) K.ok (x:= .arr (h.size+2) 0 0 1 false) (xs:=[.str a.name]) qY rfl wO qY rfl rfl dy (by rw[ig];simp[G]) (by simp[T.cells]) dy dz;obtain⟨an,ec,D,ap⟩:=K.set V bi X W a6 a7 a8 B;have C:=B.gr;have av:=(b6.trans D).out;have aA:=ap.out (h:=h) (aw _);have bT:∀b,h.size<=b->¬Fp (j.cons (dE 1 0 [.str a.name])) f b:=λb bC o=>by rw[iT (V.trans aX.symm)]at o;have:=k.fp b o;omega
  have b9:=(D.get h.size dz (bT _ (aw _))).trans ((show(j.cons (dE 1 0 [.str a.name])).get h.size=j.get h.size by rw[dS,aq J]).trans u);have ca:=(D.get (h.size+1) dz (bT _ J)).trans ((show(j.cons (dE 1 0 [.str a.name])).get (h.size+1)=j.get (h.size+1)by rw[dS,aq J]).trans M);simp[c6,cp];refine ej (λq=>?_) (λq=>?_)<;>simp[F,w,u,G,P,an,C.iy,C.cells,dX,av,aA,b9,ca,Q,R]
structure Ld where
 (p:fN) (A:List dO) (n w:Nat) (l:List dO)
def Gl(a:Ld)(c:List T)(d:H):Prop:=c=[.ptr a.w 0 0 0,sl (a.l.map dO.t)]/\Wk a.p a.A a.n d a.w/\SE a.p/\a.n+dO.ws a.l<=10000000/\dO.ws a.l<=1000000/\a.A.length<=6/\(∀e∈a.l,MS e)/\
 ∃b,b<a.p.js.length/\sN (a.p.js.map iA.name) [99] 0=b
def zg(a:Ld)(e:List T)(c:H)(d:T)(b:H):Prop:=IG d/\Step a.w c b/\Wk a.p a.A (a.n+dO.ws a.l) b a.w
def RQ(A:Nat)(bT:(jM Ld (λf a m=>Gl f a m/\dO.ws f.l<A) zg).Ok prog cx 152):(jM Ld (λf a m=>Gl f a m/\dO.ws f.l<A+1) zg).Ok prog cx 152:=by
 refine jB (tb:=⟨pt [],ht [(195,aaR),(152,jM Ld (λf a m=>Gl f a m/\dO.ws f.l<A) zg)]⟩) iR iE (iX 151115745466229840684019 [(10,[(8,12),(9,12)])] func152) (λ_ _=>1000005) (λf a m ec=>by obtain⟨⟨rfl,_⟩,_⟩:=ec;simp[f152]) ?_;rintro⟨I,c,n,j,l⟩ _ m ⟨⟨rfl,a7,P,eb,eo,ds,bB,O⟩,ea⟩ B bC;simp only at a7 P eb eo ds bB O ea;simp at bC;obtain⟨i,w⟩:=bC;have hl:=dO.uZ (l:=l);simp[f152];refine fD l.length J (λA B F=>Step j (hr m) F/\Wk I c (n+dO.ws (l.take A)) F j/\dF B 0 (.ptr j 0 0 0)/\dF B 1 (sl (l.map dO.t))/\dF B 6 (Z A)) ?_ ?_ J (by simp[i,w,dO.iW,a7.hr,Step.refl a7.ok.hr])
 ·rintro f B F aA bH ⟨aN,s,i,w,G⟩;have bS:=dO.Gb l aA;have eO:=dO.yd l (f+1);have aE:=bB l[f] (aF aA);simp[i,w,G,aA,s.ok.low];generalize l[f]=d at*
  have eN:=d.lF;refine iC abc dy ⟨I,c,n+dO.ws (l.take f),j,d⟩ ⟨rfl,s.cons _,P,dA,dA,dA,λq=>by simp only;rw[aE.cond q];exact O⟩ ?_;rintro _ p ⟨⟨e,rfl⟩,aX,k⟩;simp only at aX k;have H:=(Lb.new s.lt s.fp (dE 11 1 [d.t])).step aX;have b9:=(aN.trans (Step.cons s.ok s.lt _)).trans aX;have⟨eV,t,c1,sv,c6,S,E,L,gA,dm,dk,dd,de,di⟩:=k.ex;have bu:∀r,IG r->zg ⟨I,c,n,j,l⟩ [.ptr j 0 0 0,sl (l.map dO.t)] m r (md m p):=λr hr=>⟨hr,b9.out,k.out dA⟩;have an:=iL (a:=(c.length:Int)) (b:=1) J J;simp[i,L,gA.len (cx:=cx),an];refine ej (λo=>?_) (λo=>?_)
  ·simp[H.get];exact bu _ dy
  have eL:c.length<=5:=by simp at o;omega
  simp;refine ej (λo=>?_) (λo=>?_)
  ·simp[H.get];exact bu _ dy
  have eP:(j=p.size)=False:=by simp;have:=k.lt;omega
  have eI:(F.size=p.size)=False:=by simp;have:=H.lt;omega
  have cb:=k.cons (dE 11 0 [.agg [Z 0,Z 0,.str [],.str [],dD,Z 0,Z 0,.str [],dD,dD,dD]]);have et:=b9.trans (Step.cons k.ok k.lt (dE 11 0 [.agg [Z 0,Z 0,.str [],.str [],dD,Z 0,Z 0,.str [],dD,dD,dD]]));have c9:=(show(p.cons (dE 11 0 [.agg [Z 0,Z 0,.str [],.str [],dD,Z 0,Z 0,.str [],dD,dD,dD]])).get j=p.get j by rw[dS,aq (by have:=k.lt;omega)]).trans L;have M:∀{v:T} {ca:Nat} {bs:List T},v=c1\/v=sv\/v=c6->Gr p v ca bs->Gr (p.cons (dE 11 0 [.agg [Z 0,Z 0,.str [],.str [],dD,Z 0,Z 0,.str [],dD,dD,dD]])) v ca bs:=λeh g=>g.mono λb an=>by
   have:b<p.size:=k.fp b (tP L (v:=_) (by rcases eh with rfl|rfl|rfl<;>simp[fF,T.cells]) an);rw[dS,aq J]
  have⟨R,eH,bn,bi⟩:=(M dy gA).app (cx:=cx) cb.ok (x:= .arr p.size 0 0 1 false) (xs:=[.agg [Z 0,Z 0,.str [],.str [],dD,Z 0,Z 0,.str [],dD,dD,dD]]) zU rfl zQ zU rfl rfl dy (by rw[ig];simp) (by simp[T.cells]) dy dz;obtain⟨b,eE,eW,eF,rfl,N,eM⟩:=id bi;have a2:=bi.set N c.length d.t;have ef:(List.map dO.t c++[T.agg [Z 0,Z 0,.str [],.str [],dD,Z 0,Z 0,.str [],dD,dD,dD]]).set c.length d.t=List.map dO.t c++[d.t]:=dy;rw[ef]at a2;simp only[bj,aH,aU,cM]at a2 bn;have⟨Q,eU,b7,er⟩:=cb.Yk c9 (M dy gA) (M dy dm) (M dy dk) dd de di a2;have bN:b≠j:=λq=>by subst q;rw[dN N,ar rfl]at Q;simp at Q
  have b6:=(H.step (Step.cons k.ok k.lt _)).step b7;simp[i,L,H.get,gA.len (cx:=cx),bn,N,dX,Q,Bc Q _ bN,Bc N _ (aY bN),b6.get];refine iC bT dy ⟨I,c++[d],n+dO.ws (l.take f)+1,j,d.body⟩ ⟨⟨rfl,er,P,dA,dA,dz,aE.bd,O⟩,dA⟩ ?_;rintro _ dn ⟨⟨eC,eR,rfl⟩,a6,a8⟩;simp only at a6 a8;have eu:=et.trans b7;have l4:=b6.step a6;have HM:=eu.trans a6;simp;refine ej (λo=>?_) (λo=>?_)
  ·simp[i,l4.get];refine iC bT dy ⟨I,c++[d],n+dO.ws (l.take f)+1+dO.ws d.body,j,d.NW⟩ ⟨⟨rfl,a8,P,dA,dA,dz,aE.el,O⟩,dA⟩ ?_;rintro _ al ⟨⟨eD,eS,rfl⟩,b8,C⟩;simp only at b8 C;replace HM:=HM.trans b8;simp[i];have⟨eB,eA,c4,ey,c7,cL,cp,u,D,ae,Y,V,W,X⟩:=C.ex;have⟨R,U,h,ap⟩:=D.cut (cx:=cx) (ty:=HI) (te:=HH) rfl zQ rfl (n:=c.length) dy dy;have h:Gr al R 11 (c.map dO.t):=by rw[List.map_append,cU dy]at h;rwa[bJ dy]at h
   have⟨K,z⟩:=C.back u ae Y V W X h ap;have dv:(c++[d]).length=c.length+1:=dy;have y:=kU (a:=((c++[d]).length:Int)) (b:=1) J J;have av:((c++[d]).length:Int)-1=(c.length:Int):=dy;rw[av]at y;simp[i,u,D.len (cx:=cx)];simp at y;simp[y,U,h.iy,h.cells,dX,u];refine ej (λo=>?_) (λo=>?_)
   ·simp;exact⟨dy,(HM.trans K).out,z.out dA⟩
   ·simp[i,w,G,bH];exact⟨HM.trans K,by rw[bS];exact z.same J z.ok (λ_ _=>rfl) (aw _)⟩
  ·have C:=a8;generalize dn=al at*
   simp[i];have⟨eB,eA,c4,ey,c7,cL,cp,u,D,ae,Y,V,W,X⟩:=C.ex;have⟨R,U,h,ap⟩:=D.cut (cx:=cx) (ty:=HI) (te:=HH) rfl zQ rfl (n:=c.length) dy dy;have h:Gr al R 11 (c.map dO.t):=by rw[List.map_append,cU dy]at h;rwa[bJ dy]at h
   have⟨K,z⟩:=C.back u ae Y V W X h ap;have dv:(c++[d]).length=c.length+1:=dy;have y:=kU (a:=((c++[d]).length:Int)) (b:=1) J J;have av:((c++[d]).length:Int)-1=(c.length:Int):=dy;rw[av]at y;simp[i,u,D.len (cx:=cx)];simp at y;simp[y,U,h.iy,h.cells,dX,u];refine ej (λo=>?_) (λo=>?_)
   ·simp;exact⟨dy,(HM.trans K).out,z.out dA⟩
   ·simp[i,w,G,bH];exact⟨HM.trans K,by rw[bS];exact z.same J z.ok (λ_ _=>rfl) (aw _)⟩
 ·rintro B F ⟨aN,s,i,w,G⟩;rw[aK]at s;simp[w,G];exact⟨dy,aN.out,s.out (aw _)⟩
def FF:nS prog cx 149 (λa:List iA=>[sl (a.map iA.t)]) (λa=>a.length<=1000000) (λ_=>IG):=by
 refine jh [(193,om)] (iX 1242795222330225588904675325 [] func149) (λH=>1000005) (λB C c=>jx (λ_ _=>iA.inj) (by simpa using c)) ?_;rintro a hl b r;simp at r;simp[f149];refine fD a.length J (λx b c=>il 0 c/\dF b 0 (sl (a.map iA.t))/\(∃d,dF b 4 (Z d))/\(∃d,dF b 5 (Z d))/\(∃d,dF b 6 (Z d))/\(∃d,dF b 7 (Z d))/\dF b 8 (Z x)) ?_ ?_ J (by simp[r];exact⟨dy,dy,dy⟩)
 ·rintro i b c j s ⟨e,f,⟨D,m⟩,⟨E,n⟩,⟨F,o⟩,⟨G,q⟩,g⟩;have l:=λ{z:fJ} (c:z.p 193=some om) A=>CC c (a.take i) A (by rw[List.length_take];omega);simp[f,g,j,e.low,l,bp j];rcases Hq ((a.take i).map iA.name) a[i].on 0 with k|⟨y,v,k⟩
  ·generalize a[i]=u at*
   repeat' (refine ej (λh=>?_) (λh=>?_)<;>simp[h,f,m,n,o,q,g,e.hp,e.cons,l,bp j,oG,s,k])
  ·simp at v k;have w:y<a.length:=J;generalize a[i]=u at*
   repeat' (refine ej (λh=>?_) (λh=>?_)<;>simp[h,f,m,n,o,q,g,e.hp,e.cons,l,bp j,oG,s,k,w])
 ·rintro b c ⟨e,f,_,_,_,_,g⟩;simp[f,g,e.hp]
def Ka(a:fN):Prop:=SE a/\(a.dH.map λb=>dO.ws b.body).sum<=1000000/\(∀b∈a.dH,∀d∈b.body,MS d)/\∃c,c<a.js.length/\sN (a.js.map iA.name) [99] 0=c
def qp(a:List fP):Nat:=(a.map λb=>dO.ws b.body).sum
def j3:nS prog cx 102 (λa:fN=>[a.t]) Ka (λ_=>IG):=by
 have aE:=Al (λi:Ld=>dO.ws i.l) RQ 1000001;refine yL (tb:=⟨pt [(148,If.jv),(149,FF.jv),(150,Bk.jv),(151,LE.jv)],ht [(152,jM Ld (λi B b=>Gl i B b/\dO.ws i.l<1000001) zg)]⟩) iR iE (iX 19342850151455133005856767 [] func102) (λa=>1000005) (λB j b=>by simp at b;exact fN.inj b) dy nl9 ?_;rintro a ⟨m,av,ae,al⟩ d D;simp at D;obtain⟨_,⟨a7,rfl⟩,M⟩:=If.use a m;obtain⟨_,⟨bs,bB,rfl⟩,N⟩:=FF.use a.js m.1;obtain⟨_,⟨bu,bC,rfl⟩,O⟩:=Bk.use a m;have hl:=m.2.1;simp[f102,D,M];refine ej (λf=>?_) (λf=>?_)
 ·simp
 simp[N];refine ej (λf=>?_) (λf=>?_)
 ·simp
 simp;refine ej (λf=>?_) (λf=>?_)
 ·simp
 simp[O];refine ej (λf=>?_) (λf=>?_)
 ·simp
 simp;refine fD a.dH.length J (λo d b=>b=hE.cons (dE 2 0 [a.t])/\dF d 1 (.ptr 0 0 0 0)/\(∃q,dF d 8 (Z q))/\dF d 9 (Z o)) ?_ ?_ J dy
 ·rintro i d b k x ⟨rfl,g,⟨q,u⟩,w⟩;obtain⟨_,⟨c,rfl⟩,P⟩:=LE.use a.dH[i].body (by have:=(m.2.2 _ (aF k)).2;omega);simp[g,u,w,k,P,oG,x]
 rintro d b ⟨rfl,g,⟨q,u⟩,w⟩;simp[g,u,w];refine ej (λf=>?_) (λf=>?_)
 ·simp
 simp[g];have ap:∀{i:Nat} (H:i<a.dH.length),qp (a.dH.take (i+1))=qp (a.dH.take i)+dO.ws a.dH[i].body:=λ{i} H=>by
  unfold qp;rw[aQ H,List.map_append,List.sum_append];simp
 have an:∀i,qp (a.dH.take i)<=1000000:=λi=>by
  have:qp a.dH<=1000000:=av;have Y:qp a.dH=qp (a.dH.take i)+qp (a.dH.drop i):=by unfold qp;rw[<-List.sum_append,<-List.map_append,cQ]
  omega
 refine fD a.dH.length J (λo d b=>Wk a [] (qp (a.dH.take o)) b 1/\Lb 1 b 0 (dE 2 0 [a.t])/\dF d 1 (.ptr 0 0 0 0)/\dF d 10 (.ptr 1 0 0 0)/\dF d 11 (Z o)) ?_ ?_ J ?_
 ·rintro i d b k x ⟨r,p,g,s,n⟩;have X:=ap k;have bi:=an (i+1);have⟨bn,t,a6,sv,a8,S,E,C,gA,W,V,Q,R,U⟩:=r.ex;have⟨aN,aX⟩:=r.dP C gA W V Q R U i;have K:=p.step aN;simp[p.get,g,s,n,k,C,dX,K.get];refine iC aE dy ⟨a,[],qp (a.dH.take i),1,a.dH[i].body⟩ ⟨⟨rfl,aX,m,dA,dA,dy,ae _ (aF k),al⟩,dA⟩ ?_;rintro _ Y ⟨⟨e,q,rfl⟩,L,A⟩;simp only at L A;have aA:=K.step L;simp;refine ej (λf=>?_) (λf=>?_)
  ·simp[A.ok.hp]
  ·simp[g,s,n,x];exact⟨by rw[X];exact A,aA⟩
 ·rintro d b ⟨r,p,g,s,n⟩;simp[p.get,g,n,r.ok.hp]
 ·have G:((hE.cons (dE 2 0 [a.t])).cons (dE 6 0 [.agg [sl (a.js.map iA.t),sl (a.dH.map fP.t),Z 0,dD,dD,dD]])).get 1=some (dE 6 0 [.agg [sl (a.js.map iA.t),sl (a.dH.map fP.t),Z 0,dD,dD,dD]]):=dy;have F:∀j,Fp ((hE.cons (dE 2 0 [a.t])).cons (dE 6 0 [.agg [sl (a.js.map iA.t),sl (a.dH.map fP.t),Z 0,dD,dD,dD]])) 1 j->j=1:=λj h=>by
   rcases h with rfl|⟨z,y,v,I,h⟩
   ·rfl
   ·rw[G]at y;simp only[au]at y;subst y;simp[fF,T.cells]at I;rcases I with rfl|rfl|rfl|rfl|rfl|rfl<;>simp at h
  simp[g];exact⟨⟨⟨dy,dy,dy⟩,λj h=>by rw[F j h];simp,0,0,_,_,_,[],[],G,Gr.nil _ _,Gr.nil _ _,Gr.nil _ _,dy,dy,dy⟩,dy,λh=>absurd (F 0 h) dB⟩
