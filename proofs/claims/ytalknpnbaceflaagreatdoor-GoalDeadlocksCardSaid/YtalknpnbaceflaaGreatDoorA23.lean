/- W04b -/
import Derived.Test.YtalknpnbaceflaaGreatDoorA19
set_option linter.all false
set_option maxRecDepth 100000
set_option maxHeartbeats 0
namespace Go.Proofs.YtalknpnbaceflaaGreatDoor
noncomputable section
open Go Go.TI Tryz
attribute [-simp] List.map_take List.map_drop List.map_append ij gG fK Bool.not_or Bool.not_and
attribute [simp] ig gJ
def ZG(a:H)(j:Nat):Prop:=∃i d e f c g h,∃b:List eQ,a.get j=some (X 6 i [.eZ [d,e,f,c,g,h]])/\Gr a c 11 (b.map eQ.t)/\b.length<=1000000/\iQ 0 a
def IP:mN:=⟨λd a=>∃b c e h,d=[.fc b 0 0 0,C c,C e,.str h]/\ZG a b,λ_ a g f=>f=a/\J7 g⟩
def TS:IP.Ok prog cx 230:=by
 refine Ms (tb:=⟨pt [],ht []⟩) jv jl (jF 70368744310543 [] func230) false (λ_ _=>1000005) (λR b P=>by obtain⟨g,y,e,K,rfl,_⟩:=P;simp[f230]) ?_;rintro _ b ⟨g,y,e,K,rfl,ap,S,T,U,z,V,W,h,s,n,hl,v⟩ d D;simp at D;obtain⟨f,i,j,k⟩:=D;have u:=H.gh s;simp[f230];refine ik h.length B (λo d c=>Fr b.size (hr b) c/\iQ 0 c/\Y d 0 (.fc g 0 0 0)/\Y d 1 (C y)/\Y d 2 (C e)/\Y d 3 (.str K)/\Y d 9 (C o)) ?_ ?_ B (by simp[f,i,j,k,Fr.refl,v.hr])
 ·rintro o d c F N ⟨a,w,f,i,j,k,m⟩;have p:=(a.get g u).trans ((iU b g).trans s);have l:Gr c z 11 (h.map eQ.t):=n.mono λe q=>by have⟨_,_,_,_,x,_⟩:=n.box q;rw[a.get e (H.gh x),iU]
  have O:o<(h.map eQ.t).length:=by simpa using F
  have⟨L,Z,av,ab,aA,al,Q,I,J⟩:=l.Bd (te:=Kg) rfl O;have ae:=Nat.ne_of_lt (bK u a.size);simp at J;have an:(L=c.size)=False:=by simp;have:=H.gh I;omega
  simp[f,i,j,k,m,p,l.len (cx:=cx),Q,I,J,F,w.low];have A:=a.trans (Fr.cons (lo:=b.size) (by have:b.size<=c.size:=a.size;omega) (X 11 1 [h[o].t]))
  repeat' (refine fN (λE=>?_) (λE=>?_)<;>simp[E,f,i,j,k,m,N,A,w.cons])
  exact tj b _ _ v.hp A (r:= .ez true) rfl ⟨rfl,G⟩
 ·rintro d c ⟨a,w,f,i,j,k,m⟩;have p:=(a.get g u).trans ((iU b g).trans s);have l:Gr c z 11 (h.map eQ.t):=n.mono λe q=>by have⟨_,_,_,_,x,_⟩:=n.box q;rw[a.get e (H.gh x),iU]
  simp[f,m,p,l.len (cx:=cx)];exact tj b _ _ v.hp a (r:= .ez false) rfl ⟨rfl,G⟩
structure Wk(p:iA)(A:List eQ)(n:Nat)(h:H)(w:Nat):Prop where
 ok:iQ 0 h
 fp:∀b,Fp h w b->b<h.size
 ex:∃ver t av sv ev,∃S E:List (List Nat),h.get w=some (X 6 ver [.eZ [sl (p.kf.map jo.t),sl (p.ee.map iJ.t),C t,av,sv,ev]])/\
  Gr h av 11 (A.map eQ.t)/\Gr h sv 1 (S.map T.str)/\Gr h ev 1 (E.map T.str)/\S.length<=n/\E.length<=n/\∀b,fq sv=some b->fq ev≠some b
def Wk.ins{k:iA}{a:List eQ}{j:Nat}{b:H}{d:Nat}(c:Wk k a j b d)(i:a.length<=1000000):ZG b d:=by
 have⟨l,o,e,sv,f,n,m,g,h,_⟩:=c.ex;exact⟨l,_,_,_,e,sv,f,a,g,h,i,c.ok⟩
def v7{c:H}{d:Nat}{a:jK}(f:c.get d=some a){v:T}(g:v∈iq a.gW){b:Nat}(e:fq v=some b):Fp c d b:= .inr ⟨a,f,v,g,e⟩
def Wk.same{m:iA}{h:List eQ}{l k:Nat}{c d:H}{g:Nat}(j:Wk m h l c g)(D:l<=k)(w:iQ 0 d)(f:∀a,Fp c g a->d.get a=c.get a)(v:c.size<=d.size):Wk m h k d g:=by
 have⟨y,x,p,sv,q,o,n,e,r,s,t,z,A,u⟩:=j.ex;have i:=f g (.inl rfl);refine⟨w,λa b=>by rw[jJ i]at b;exact bK (j.fp a b) v,y,x,p,sv,q,o,n,by rw[i];exact e,?_,?_,?_,B,B,u⟩
 ·exact r.mono λa b=>f a (v7 e (by simp[iq,T.cells]) b)
 ·exact s.mono λa b=>f a (v7 e (by simp[iq,T.cells]) b)
 ·exact t.mono λa b=>f a (v7 e (by simp[iq,T.cells]) b)
def Wk.lt{f:iA}{c:List eQ}{e:Nat}{b:H}{a:Nat}(d:Wk f c e b a):a<b.size:=d.fp a (.inl rfl)
theorem Wk.cons{e:iA}{b:List eQ}{d:Nat}{c:H}{w:Nat}(a:Wk e b d c w)(f:jK):Wk e b d (c.cons f) w:=
 a.same (ax _) (a.ok.cons f) (λg h=>by rw[fk,Z (by have:=a.fp g h;omega)]) G 
def Wk.hr{e:iA}{b:List eQ}{d:Nat}{a:H}{f:Nat}(c:Wk e b d a f):Wk e b d (TI.hr a) f:=c.same (ax _) c.ok.hr (λg _=>iU a g) (ax _)
def Wk.out{e:iA}{b:List eQ}{d m:Nat}{h a:H}{f:Nat}(c:Wk e b d a f)(i:d<=m):Wk e b m (mX h a) f:=c.same i (c.ok.out h) (λg _=>iB h a g) (ax _)
def Wk.spawn{a:iA}{m:List eQ}{k d h:Nat}{c f:H}{g:Int}{e sv b l:T}{j n:List (List Nat)}{w:List Nat}(u:Wk a m k c d)(o:c.get d=some (X 6 h [.eZ [sl (a.kf.map jo.t),sl (a.ee.map iJ.t),C g,e,sv,b]]))
 (gA:Gr c e 11 (m.map eQ.t)) (s:Gr c sv 1 (j.map T.str)) (E:Gr c b 1 (n.map T.str)) (J:j.length<=k) (K:n.length<=k) (D:∀r,fq sv=some r->fq b≠some r) (F:Ei c sv 1 (j.map T.str++[.str w]) l f):
 f.get d=some (X 6 h [.eZ [sl (a.kf.map jo.t),sl (a.ee.map iJ.t),C g,e,sv,b]])/\gU c f d=true/\
  Step d c (fJ f d (X 6 (h+1) [.eZ [sl (a.kf.map jo.t),sl (a.ee.map iJ.t),C g,e,l,b]]))/\
  Wk a m (k+1) (fJ f d (X 6 (h+1) [.eZ [sl (a.kf.map jo.t),sl (a.ee.map iJ.t),C g,e,l,b]])) d:=by
 have⟨p,I⟩:=zu (i:=4) u.ok u.fp o rfl dT s F.xt;have⟨q,z,A,v⟩:=I _ rfl;have⟨a1,a2⟩:=v e 11 _ G gA (s.ne gA dT) dT;have⟨x,y⟩:=v b 1 _ G E D dT;exact⟨p.trans o,il p,q,⟨q.ok.hp,q.ok.low,ay _⟩,z,h+1,g,e,l,b,j++[w],n,by rw[eG (p.trans o),au rfl],a1,by rw[List.map_append];exact A,x,dR,B,y⟩
def Wk.set{a:iA}{o:List eQ}{m c k:Nat}{b h:H}{j:Int}{d sv g n:T}{p l:List (List Nat)}{x:List Nat}(f:Wk a o m b c)(q:b.get c=some (X 6 k [.eZ [sl (a.kf.map jo.t),sl (a.ee.map iJ.t),C j,d,sv,g]]))
 (gA:Gr b d 11 (o.map eQ.t)) (F:Gr b sv 1 (p.map T.str)) (v:Gr b g 1 (l.map T.str)) (K:p.length<=m) (L:l.length<=m) (E:∀e,fq sv=some e->fq g≠some e) (I:Ei b g 1 (l.map T.str++[.str x]) n h):
 h.get c=some (X 6 k [.eZ [sl (a.kf.map jo.t),sl (a.ee.map iJ.t),C j,d,sv,g]])/\gU b h c=true/\
  Step c b (fJ h c (X 6 (k+1) [.eZ [sl (a.kf.map jo.t),sl (a.ee.map iJ.t),C j,d,sv,n]]))/\
  Wk a o (m+1) (fJ h c (X 6 (k+1) [.eZ [sl (a.kf.map jo.t),sl (a.ee.map iJ.t),C j,d,sv,n]])) c:=by
 have⟨s,J⟩:=zu (i:=5) f.ok f.fp q rfl dT v I.xt;have⟨u,A,D,w⟩:=J _ rfl;have⟨a1,a2⟩:=w d 11 _ G gA (v.ne gA dT) dT;have⟨y,z⟩:=w sv 1 _ G F (λe r f=>E e f r) dT;exact⟨s.trans q,il s,u,⟨u.ok.hp,u.ok.low,ay _⟩,A,k+1,j,d,sv,n,p,l++[x],by rw[eG (s.trans q),au rfl],a1,y,by rw[List.map_append];exact D,B,dR,λe r f=>z e f r⟩
def Wk.abR{a:iA}{h:List eQ}{k d g:Nat}{c e:H}{f:Int}{j sv b l:T}{n m:List (List Nat)}{x:eQ}(v:Wk a h k c d)(o:c.get d=some (X 6 g [.eZ [sl (a.kf.map jo.t),sl (a.ee.map iJ.t),C f,j,sv,b]]))
 (gA:Gr c j 11 (h.map eQ.t)) (u:Gr c sv 1 (n.map T.str)) (s:Gr c b 1 (m.map T.str)) (D:n.length<=k) (E:m.length<=k) (F:∀r,fq sv=some r->fq b≠some r) (I:Ei c j 11 (h.map eQ.t++[x.t]) l e):
 e.get d=some (X 6 g [.eZ [sl (a.kf.map jo.t),sl (a.ee.map iJ.t),C f,j,sv,b]])/\gU c e d=true/\
  Step d c (fJ e d (X 6 (g+1) [.eZ [sl (a.kf.map jo.t),sl (a.ee.map iJ.t),C f,l,sv,b]]))/\
  Wk a (h++[x]) k (fJ e d (X 6 (g+1) [.eZ [sl (a.kf.map jo.t),sl (a.ee.map iJ.t),C f,l,sv,b]])) d:=by
 have⟨p,J⟩:=zu (i:=3) v.ok v.fp o rfl dT gA I.xt;have⟨q,z,A,w⟩:=J _ rfl;have⟨a1,a2⟩:=w sv 1 _ G u (gA.ne u dT) dT;have⟨y,K⟩:=w b 1 _ G s (gA.ne s dT) dT;exact⟨p.trans o,il p,q,⟨q.ok.hp,q.ok.low,ay _⟩,z,g+1,f,l,sv,b,n,m,by rw[eG (p.trans o),au rfl],by rw[List.map_append];exact A,a1,y,D,E,F⟩
def Wk.back{b:iA}{p:List eQ}{o i k:Nat}{d:H}{j:Int}{m sv f h:T}{r q:List (List Nat)}{K:eQ}(g:Wk b (p++[K]) o d i)(c:d.get i=some (X 6 k [.eZ [sl (b.kf.map jo.t),sl (b.ee.map iJ.t),C j,m,sv,f]]))
 (I:Gr d sv 1 (r.map T.str)) (F:Gr d f 1 (q.map T.str)) (A:r.length<=o) (D:q.length<=o) (E:∀e,fq sv=some e->fq f≠some e) (gA:Gr d h 11 (p.map eQ.t)) (n:fq h=fq m):
   Step i d (fJ d i (X 6 (k+1) [.eZ [sl (b.kf.map jo.t),sl (b.ee.map iJ.t),C j,h,sv,f]]))/\
   Wk b p o (fJ d i (X 6 (k+1) [.eZ [sl (b.kf.map jo.t),sl (b.ee.map iJ.t),C j,h,sv,f]])) i:=by
 have w:=Step.put g.ok c (X 6 (k+1) [.eZ [sl (b.kf.map jo.t),sl (b.ee.map iJ.t),C j,h,sv,f]]) (λv l e a=>by
  simp[iq,T.cells]at l;rcases l with rfl|rfl|rfl|rfl|rfl|rfl
  ·simp at a
  ·simp at a
  ·simp at a
  ·exact .inl (v7 c (v:=m) (by simp[iq,T.cells]) (by rw[<-n];exact a))
  ·exact .inl (v7 c (v:=v) (by simp[iq,T.cells]) a)
  ·exact .inl (v7 c (v:=v) (by simp[iq,T.cells]) a))
 have u:∀{v:T} {x:Nat} {y:List T},Gr d v x y->x≠6->Gr (fJ d i (X 6 (k+1) [.eZ [sl (b.kf.map jo.t),sl (b.ee.map iJ.t),C j,h,sv,f]])) v x y:=λz J=>z.mono λe n=>by
  have⟨_,_,_,_,a,_⟩:=z.box n;rw[eG c,Z (λg=>by subst g;rw[c]at a;simp at a;exact J a.1.symm)]
 refine⟨w,⟨w.ok.hp,w.ok.low,ay _⟩,λe a=>?_,k+1,j,h,sv,f,r,q,by rw[eG c,au rfl],u gA dT,u I dT,u F dT,A,D,E⟩;rw[iy];rcases a with rfl|⟨L,s,v,l,a⟩
 ·exact g.lt
 rw[eG c,au rfl]at s;simp only[aw]at s;subst s;simp[iq,T.cells]at l;rcases l with rfl|rfl|rfl|rfl|rfl|rfl
 ·simp at a
 ·simp at a
 ·simp at a
 ·exact g.fp e (v7 c (v:=m) (by simp[iq,T.cells]) (by rw[<-n];exact a))
 ·exact g.fp e (v7 c (v:=v) (by simp[iq,T.cells]) a)
 ·exact g.fp e (v7 c (v:=v) (by simp[iq,T.cells]) a)
def Wk.eJ{b:iA}{n:List eQ}{m h k:Nat}{d:H}{K:Int}{f sv e:T}{p o:List (List Nat)}(l:Wk b n m d h)(g:d.get h=some (X 6 k [.eZ [sl (b.kf.map jo.t),sl (b.ee.map iJ.t),C K,f,sv,e]]))
 (gA:Gr d f 11 (n.map eQ.t)) (F:Gr d sv 1 (p.map T.str)) (E:Gr d e 1 (o.map T.str)) (z:p.length<=m) (A:o.length<=m) (D:∀c,fq sv=some c->fq e≠some c) (j:Int):
   Step h d (fJ d h (X 6 (k+1) [.eZ [sl (b.kf.map jo.t),sl (b.ee.map iJ.t),C j,f,sv,e]]))/\
   Wk b n m (fJ d h (X 6 (k+1) [.eZ [sl (b.kf.map jo.t),sl (b.ee.map iJ.t),C j,f,sv,e]])) h:=by
 have y:∀v∈ [sl (b.kf.map jo.t),sl (b.ee.map iJ.t),C j,f,sv,e],∀c,fq v=some c->Fp d h c:=λv i c a=>by
  simp at i;rcases i with rfl|rfl|rfl|rfl|rfl|rfl
  ·simp at a
  ·simp at a
  ·simp at a
  ·exact v7 g (v:=v) (by simp[iq,T.cells]) a
  ·exact v7 g (v:=v) (by simp[iq,T.cells]) a
  ·exact v7 g (v:=v) (by simp[iq,T.cells]) a
 have s:=Step.put l.ok g (X 6 (k+1) [.eZ [sl (b.kf.map jo.t),sl (b.ee.map iJ.t),C j,f,sv,e]]) (λv i c a=> .inl (y v (by simpa[iq,T.cells]using i) c a));have r:∀{v:T} {u:Nat} {w:List T},Gr d v u w->u≠6->Gr (fJ d h (X 6 (k+1) [.eZ [sl (b.kf.map jo.t),sl (b.ee.map iJ.t),C j,f,sv,e]])) v u w:=λx J=>x.mono λc I=>by
  have⟨_,_,_,_,a,_⟩:=x.box I;rw[eG g,Z (λl=>by subst l;rw[g]at a;simp at a;exact J a.1.symm)]
 refine⟨s,⟨s.ok.hp,s.ok.low,ay _⟩,λc a=>?_,k+1,j,f,sv,e,p,o,by rw[eG g,au rfl],r gA dT,r F dT,r E dT,z,A,D⟩;rw[iy];rcases a with rfl|⟨L,q,v,i,a⟩
 ·exact l.lt
 rw[eG g,au rfl]at q;simp only[aw]at q;subst q;exact l.fp c (y v (by simpa[iq,T.cells]using i) c a)
structure ab0 where
 (p:iA) (A:List eQ) (n w:Nat) (s:eQ)
def aai(a:ab0)(c:List T)(d:H):Prop:=c=[.fc a.w 0 0 0,a.s.t]/\Wk a.p a.A a.n d a.w/\Wb a.p/\a.n<=10000000/\a.s.w<=1000000/\a.A.length<=1000000/\
 (9<=a.s.op/\a.s.op<=11->∃b,b<a.p.kf.length/\uZ (a.p.kf.map jo.name) a.s.name 0=b)
def ON(a:ab0)(e:List T)(c:H)(d:T)(b:H):Prop:=Ik d/\Step a.w c b/\Wk a.p a.A (a.n+1) b a.w
noncomputable abbrev aeb:mN:=km ab0 aai ON
def aev:aeb.Ok prog cx 198:=by
 obtain⟨N,c6⟩:=hlB TS (λ_ _ _ _ o=>o);refine kh (tb:=⟨pt [(232,CS.kc),(233,FE.kc),(231,fD.kc),(234,HX.kc),(126,Fg),(196,pW),(197,nH)],ht [(230,IP)]⟩) jv jl (jF 14474012017383023515249485065460760621927424225494418519668988771800801378299 [(1,[(7,9)]),(8,[(4,5),(4,8)]),(9,[(4,5),(4,8),(4,9),(4,10),(4,12),(11,12),(4,15),(11,15)]),(28,[(2,7)]),(49,[(4,5),(4,8)])] func198) (λ_ _=>5) (λi l h de=>by obtain⟨rfl,_⟩:=de;simp[f198]) ?_;rintro⟨d,A,n,f,a⟩ _ h ⟨rfl,k,y,dd,di,bA,bH⟩ eu bB;simp only at k y dd di bA bH;simp at bB;obtain⟨I,c4⟩:=bB;have s:=(k.hr.cons (X 11 0 [a.t])).cons (X 2 1 [d.t]);have K:Step f h (mX h (((hr h).cons (X 11 0 [a.t])).cons (X 2 1 [d.t]))):=
  ((Step.cons k.ok.hr k.lt _).trans (Step.cons (k.hr.cons _).ok (k.hr.cons _).lt _)).out
 have ds:Step f (hr h) (((hr h).cons (X 11 0 [a.t])).cons (X 2 1 [d.t])):=(Step.cons k.ok.hr k.lt _).trans (Step.cons (k.hr.cons _).ok (k.hr.cons _).lt _);have L:=s.out (h:=h) (m:=n+1) B;have P:∀o:Int,9<=o/\o<=11->decide (a.op=o)=true->∃m:Nat,m<d.kf.length/\uZ (d.kf.map jo.name) a.name 0=m:=λo ef Q=>bH (by simp at Q;omega);have ap:=λ{tb:io} (ht:tb.h 230=some IP) l b z=>c6 ht [.fc f 0 0 0,C l,C b,.str z] _ ⟨f,l,b,z,rfl,s.ins bA⟩;have eh:=k.lt;have bN:(f=h.size)=False:=dR;have bS:(f=h.size+1)=False:=dR;have cX:(((hr h).cons (X 11 0 [a.t])).cons (X 2 1 [d.t])).get f=h.get f:=by simp[bN,bS]
 obtain⟨et,z,b6,sv,cp,S,E,w,gA,bu,bs,bg,bi,bn⟩:=s.ex;have a8:=cX.symm.trans w;have cL:=bu.rZ G;have cF:=bs.rZ G;have cb:=λ{tb:io} (h:tb.p 126=some Fg) x=>RW h S x B;have ca:=λ{tb:io} (h:tb.p 126=some Fg) x=>RW h E x B;obtain⟨Nw,W⟩:=CS.fnI (λc:List Nat×Int×Int=>(d,z,c)) (λ_=>y);have W:=λ{tb:io} (ht:tb.p 232=some CS.kc) x l b=>W ht (x,l,b);obtain⟨ea,a6⟩:=HX.fnI (λb:Bool=>b) (λ_=>trivial);have V:∀{tb:io},tb.p 231=some fD.kc->∀l b,rl prog cx tb 231 [C l,C b]=some (C (if l=0 then b else l)):=λht l b=>by
  obtain⟨_,rfl,Q⟩:=fD.use (l,b) trivial;exact Q ht
 have dk:=a.nd;obtain⟨_,⟨eo,rfl⟩,U⟩:=FE.use (d,z,a.e) ⟨y,dS⟩;have eT:=λ{tb:io} (h:tb.p 197=some nH) x=>zL h d.ee x (by have:=y.2.1;omega);have b9:=λ{tb:io} (h:tb.p 196=some pW) x=>EE h d.kf x (by have:=y.1;omega);simp[f198,I,c4,a8,bN,bS,ap];have u:(((hr h).cons (X 11 0 [a.t])).cons (X 2 1 [d.t])).get h.size=some (X 11 0 [a.t]):=G;have O:(((hr h).cons (X 11 0 [a.t])).cons (X 2 1 [d.t])).get (h.size+1)=some (X 2 1 [d.t]):=G;have J:(((hr h).cons (X 11 0 [a.t])).cons (X 2 1 [d.t])).size=h.size+2:=G;generalize(((hr h).cons (X 11 0 [a.t])).cons (X 2 1 [d.t]))=j at*
 generalize N [T.fc f 0 0 0,T.int IntKind.i64 7,T.int IntKind.i64 7,T.str []] j=eb;generalize N [T.fc f 0 0 0,T.int IntKind.i64 8,T.int IntKind.i64 8,T.str []] j=ec;generalize N [T.fc f 0 0 0,T.int IntKind.i64 3,T.int IntKind.i64 3,T.str []] j=ed;have ab:=(show(j.cons (X 1 0 [.str a.name])).get f=j.get f from by rw[fk,Z B]).trans w;have M:=s.cons (X 1 0 [.str a.name]);have bW:=ds.trans (Step.cons s.ok s.lt (X 1 0 [.str a.name]));have an:∀{v:T} {bX:Nat} {a7:List T},v=b6\/v=sv\/v=cp->Gr j v bX a7->Gr (j.cons (X 1 0 [.str a.name])) v bX a7:=λdm g=>g.mono λb bC=>by
  have:b<j.size:=s.fp b (v7 w (v:=_) (by rcases dm with rfl|rfl|rfl<;>simp[iq,T.cells]) bC);rw[fk,Z B]
 have al:=an G bu;have ae:=an G bs;have bp:=an G gA
 repeat' (refine fN (λq=>?_) (λq=>?_)<;>simp[q,I,w,u,O,ap,W,a6,V,U,eT,b9,ON,K,L])
 ·cases av:a.index with
  |nil=>rename_i q;simp[av]at q
  |cons x r=>
   obtain⟨_,⟨er,rfl⟩,cd⟩:=FE.use (d,z,x) ⟨y,by simp only;rw[av,fF.lq]at dk;omega⟩;simp[u,O,V,U,K,L,av,cd]
 iterate 3
  ·obtain⟨m,c7,c9⟩:∃m,m<d.kf.length/\uZ (d.kf.map jo.name) a.name 0=m:=by first|exact P 9 B (by assumption)|exact P 10 B (by assumption)|exact P 11 B (by assumption)
   simp[u,ap,a6,K,L,c7,c9]
 ·simp[cL,cb];refine fN (λq=>?_) (λq=>?_)
  ·simp[K,L]
  obtain⟨dv,c1,R,D⟩:=al.app (cx:=cx) M.ok (x:= .arr (h.size+2) 0 0 1 false) (xs:=[.str a.name]) tR rfl yV tR rfl rfl G (by rw[iR];simp[J]) (by simp[T.cells]) G dR;obtain⟨aA,dn,H,aE⟩:=M.spawn ab bp al ae bg bi bn D;have F:=D.gr;have aN:=(bW.trans H).out;have aX:=aE.out (h:=h) (ax _);simp[I,w,u,J,R,aA,F.jc,F.cells,fG,aN,aX]
 ·obtain⟨dv,c1,R,D⟩:=ae.app (cx:=cx) M.ok (x:= .arr (h.size+2) 0 0 1 false) (xs:=[.str a.name]) tR rfl yV tR rfl rfl G (by rw[iR];simp[J]) (by simp[T.cells]) G dR;obtain⟨aA,dn,H,aE⟩:=M.set ab bp al ae bg bi bn D;have F:=D.gr;have aN:=(bW.trans H).out;have aX:=aE.out (h:=h) (ax _);have bT:∀b,h.size<=b->¬Fp (j.cons (X 1 0 [.str a.name])) f b:=λb bC o=>by rw[jJ (ab.trans a8.symm)]at o;have:=k.fp b o;omega
  have b7:=(H.get h.size dR (bT _ (ax _))).trans ((show(j.cons (X 1 0 [.str a.name])).get h.size=j.get h.size by rw[fk,Z B]).trans u);have b8:=(H.get (h.size+1) dR (bT _ B)).trans ((show(j.cons (X 1 0 [.str a.name])).get (h.size+1)=j.get (h.size+1)by rw[fk,Z B]).trans O);simp[cF,ca];refine fN (λq=>?_) (λq=>?_)<;>simp[I,w,u,J,R,aA,F.jc,F.cells,fG,aN,aX,b7,b8,U,V]
structure Oo where
 (p:iA) (A:List eQ) (n w:Nat) (l:List eQ)
def IS(a:Oo)(c:List T)(d:H):Prop:=c=[.fc a.w 0 0 0,sl (a.l.map eQ.t)]/\Wk a.p a.A a.n d a.w/\Wb a.p/\a.n+eQ.ws a.l<=10000000/\eQ.ws a.l<=1000000/\a.A.length<=6/\(∀e∈a.l,MS e)/\
 ∃b,b<a.p.kf.length/\uZ (a.p.kf.map jo.name) [99] 0=b
def BI(a:Oo)(e:List T)(c:H)(d:T)(b:H):Prop:=Lo d/\Step a.w c b/\Wk a.p a.A (a.n+eQ.ws a.l) b a.w
def Vs(A:Nat)(bX:(km Oo (λf a m=>IS f a m/\eQ.ws f.l<A) BI).Ok prog cx 156):(km Oo (λf a m=>IS f a m/\eQ.ws f.l<A+1) BI).Ok prog cx 156:=by
 refine kh (tb:=⟨pt [],ht [(198,aeb),(156,km Oo (λf a m=>IS f a m/\eQ.ws f.l<A) BI)]⟩) jv jl (jF 151115745466229840684019 [(10,[(8,12),(9,12)])] func156) (λ_ _=>1000005) (λf a m dv=>by obtain⟨⟨rfl,_⟩,_⟩:=dv;simp[f156]) ?_;rintro⟨L,c,n,j,l⟩ _ m ⟨⟨rfl,bp,U,ds,ec,dk,bH,R⟩,dn⟩ D bN;simp only at bp U ds ec dk bH R dn;simp at bN;obtain⟨i,w⟩:=bN;have hl:=eQ.xz (l:=l);simp[f156];refine ik l.length B (λA D I=>Step j (hr m) I/\Wk L c (n+eQ.ws (l.take A)) I j/\Y D 0 (.fc j 0 0 0)/\Y D 1 (sl (l.map eQ.t))/\Y D 6 (C A)) ?_ ?_ B (by simp[i,w,eQ.jS,bp.hr,Step.refl bp.ok.hr])
 ·rintro f D I a7 bS ⟨bg,s,i,w,J⟩;have bW:=eQ.IF l a7;have eI:=eQ.AD l (f+1);have a8:=bH l[f] (aG a7);simp[i,w,J,a7,s.ok.low];generalize l[f]=d at*
  have eH:=d.nd;refine jB aev G ⟨L,c,n+eQ.ws (l.take f),j,d⟩ ⟨rfl,s.cons _,U,dS,dS,dS,λq=>by simp only;rw[a8.cond q];exact R⟩ ?_;rintro _ p ⟨⟨e,rfl⟩,bi,k⟩;simp only at bi k;have K:=(Lb.new s.lt s.fp (X 11 1 [d.t])).step bi;have b9:=(bg.trans (Step.cons s.ok s.lt _)).trans bi;have⟨eP,eO,cF,sv,cX,S,E,O,gA,de,dd,c6,c7,c9⟩:=k.ex;have bC:∀r,Lo r->BI ⟨L,c,n,j,l⟩ [.fc j 0 0 0,sl (l.map eQ.t)] m r (mX m p):=λr hr=>⟨hr,b9.out,k.out dS⟩;have aN:=jp (a:=(c.length:Int)) (b:=1) B B;simp[i,O,gA.len (cx:=cx),aN];refine fN (λo=>?_) (λo=>?_)
  ·simp[K.get];exact bC _ G
  have eE:c.length<=5:=by simp at o;omega
  simp;refine fN (λo=>?_) (λo=>?_)
  ·simp[K.get];exact bC _ G
  have eK:(j=p.size)=False:=by simp;have:=k.lt;omega
  have eD:(I.size=p.size)=False:=by simp;have:=K.lt;omega
  have cb:=k.cons (X 11 0 [.eZ [C 0,C 0,.str [],.str [],dV,C 0,C 0,.str [],dV,dV,dV]]);have ef:=b9.trans (Step.cons k.ok k.lt (X 11 0 [.eZ [C 0,C 0,.str [],.str [],dV,C 0,C 0,.str [],dV,dV,dV]]));have c4:=(show(p.cons (X 11 0 [.eZ [C 0,C 0,.str [],.str [],dV,C 0,C 0,.str [],dV,dV,dV]])).get j=p.get j by rw[fk,Z (by have:=k.lt;omega)]).trans O;have P:∀{v:T} {ca:Nat} {bB:List T},v=cF\/v=sv\/v=cX->Gr p v ca bB->Gr (p.cons (X 11 0 [.eZ [C 0,C 0,.str [],.str [],dV,C 0,C 0,.str [],dV,dV,dV]])) v ca bB:=λeb g=>g.mono λb aN=>by
   have:b<p.size:=k.fp b (v7 O (v:=_) (by rcases eb with rfl|rfl|rfl<;>simp[iq,T.cells]) aN);rw[fk,Z B]
  have⟨ab,eC,bA,bu⟩:=(P G gA).app (cx:=cx) cb.ok (x:= .arr p.size 0 0 1 false) (xs:=[.eZ [C 0,C 0,.str [],.str [],dV,C 0,C 0,.str [],dV,dV,dV]]) Cf rfl Ce Cf rfl rfl G (by rw[iR];simp) (by simp[T.cells]) G dR;obtain⟨b,eA,eR,eB,rfl,Q,eF⟩:=id bu;have a2:=bu.set Q c.length d.t;have ea:(List.map eQ.t c++[T.eZ [C 0,C 0,.str [],.str [],dV,C 0,C 0,.str [],dV,dV,dV]]).set c.length d.t=List.map eQ.t c++[d.t]:=G;rw[ea]at a2;simp only[aV,aI,aQ,cV]at a2 bA;have⟨W,eN,b7,ed⟩:=cb.abR c4 (P G gA) (P G de) (P G dd) c6 c7 c9 a2;have bT:b≠j:=λq=>by subst q;rw[eG Q,au rfl]at W;simp at W
  have b6:=(K.step (Step.cons k.ok k.lt _)).step b7;simp[i,O,K.get,gA.len (cx:=cx),bA,Q,fG,W,Dv W _ bT,Dv Q _ (bE bT),b6.get];refine jB bX G ⟨L,c++[d],n+eQ.ws (l.take f)+1,j,d.body⟩ ⟨⟨rfl,ed,U,dS,dS,dR,a8.bd,R⟩,dS⟩ ?_;rintro _ di ⟨⟨eu,eL,rfl⟩,bn,bs⟩;simp only at bn bs;have eh:=ef.trans b7;have l4:=b6.step bn;have Kn:=eh.trans bn;simp;refine fN (λo=>?_) (λo=>?_)
  ·simp[i,l4.get];refine jB bX G ⟨L,c++[d],n+eQ.ws (l.take f)+1+eQ.ws d.body,j,d.Rv⟩ ⟨⟨rfl,bs,U,dS,dS,dR,a8.el,R⟩,dS⟩ ?_;rintro _ aE ⟨⟨ey,eM,rfl⟩,b8,F⟩;simp only at b8 F;replace Kn:=Kn.trans b8;simp[i];have⟨et,er,cL,eo,c1,cp,cd,u,H,aA,av,al,an,ap⟩:=F.ex;have⟨ab,ae,h,aX⟩:=H.cut (cx:=cx) (ty:=Kh) (te:=Kg) rfl Ce rfl (n:=c.length) G G;have h:Gr aE ab 11 (c.map eQ.t):=by rw[List.map_append,dt G]at h;rwa[bQ G]at h
   have⟨N,z⟩:=F.back u aA av al an ap h aX;have dm:(c++[d]).length=c.length+1:=G;have y:=mh (a:=((c++[d]).length:Int)) (b:=1) B B;have a6:((c++[d]).length:Int)-1=(c.length:Int):=G;rw[a6]at y;simp[i,u,H.len (cx:=cx)];simp at y;simp[y,ae,h.jc,h.cells,fG,u];refine fN (λo=>?_) (λo=>?_)
   ·simp;exact⟨G,(Kn.trans N).out,z.out dS⟩
   ·simp[i,w,J,bS];exact⟨Kn.trans N,by rw[bW];exact z.same B z.ok (λ_ _=>rfl) (ax _)⟩
  ·have F:=bs;generalize di=aE at*
   simp[i];have⟨et,er,cL,eo,c1,cp,cd,u,H,aA,av,al,an,ap⟩:=F.ex;have⟨ab,ae,h,aX⟩:=H.cut (cx:=cx) (ty:=Kh) (te:=Kg) rfl Ce rfl (n:=c.length) G G;have h:Gr aE ab 11 (c.map eQ.t):=by rw[List.map_append,dt G]at h;rwa[bQ G]at h
   have⟨N,z⟩:=F.back u aA av al an ap h aX;have dm:(c++[d]).length=c.length+1:=G;have y:=mh (a:=((c++[d]).length:Int)) (b:=1) B B;have a6:((c++[d]).length:Int)-1=(c.length:Int):=G;rw[a6]at y;simp[i,u,H.len (cx:=cx)];simp at y;simp[y,ae,h.jc,h.cells,fG,u];refine fN (λo=>?_) (λo=>?_)
   ·simp;exact⟨G,(Kn.trans N).out,z.out dS⟩
   ·simp[i,w,J,bS];exact⟨Kn.trans N,by rw[bW];exact z.same B z.ok (λ_ _=>rfl) (ax _)⟩
 ·rintro D I ⟨bg,s,i,w,J⟩;rw[aL]at s;simp[w,J];exact⟨G,bg.out,s.out (ax _)⟩
def HZ:pM prog cx 153 (λa:List jo=>[sl (a.map jo.t)]) (λa=>a.length<=1000000) (λ_=>Lo):=by
 refine jU [(196,pW)] (jF 1242795222330225588904675325 [] func153) (λK=>1000005) (λD E c=>jV (λ_ _=>jo.inj) (by simpa using c)) ?_;rintro a hl b r;simp at r;simp[f153];refine ik a.length B (λx b c=>iQ 0 c/\Y b 0 (sl (a.map jo.t))/\(∃d,Y b 4 (C d))/\(∃d,Y b 5 (C d))/\(∃d,Y b 6 (C d))/\(∃d,Y b 7 (C d))/\Y b 8 (C x)) ?_ ?_ B (by simp[r];exact⟨G,G,G⟩)
 ·rintro i b c j s ⟨e,f,⟨F,m⟩,⟨H,n⟩,⟨I,o⟩,⟨J,q⟩,g⟩;have l:=λ{z:io} (c:z.p 196=some pW) A=>EE c (a.take i) A (by rw[List.length_take];omega);simp[f,g,j,e.low,l,bI j];rcases JV ((a.take i).map jo.name) a[i].on 0 with k|⟨y,v,k⟩
  ·generalize a[i]=u at*
   repeat' (refine fN (λh=>?_) (λh=>?_)<;>simp[h,f,m,n,o,q,g,e.hp,e.cons,l,bI j,qm,s,k])
  ·simp at v k;have w:y<a.length:=B;generalize a[i]=u at*
   repeat' (refine fN (λh=>?_) (λh=>?_)<;>simp[h,f,m,n,o,q,g,e.hp,e.cons,l,bI j,qm,s,k,w])
 ·rintro b c ⟨e,f,_,_,_,_,g⟩;simp[f,g,e.hp]
def KN(a:iA):Prop:=Wb a/\(a.ee.map λb=>eQ.ws b.body).sum<=1000000/\(∀b∈a.ee,∀d∈b.body,MS d)/\∃c,c<a.kf.length/\uZ (a.kf.map jo.name) [99] 0=c
def sM(a:List iJ):Nat:=(a.map λb=>eQ.ws b.body).sum
def kW:pM prog cx 111 (λa:iA=>[a.t]) KN (λ_=>Lo):=by
 have a7:=z9 (λi:Oo=>eQ.ws i.l) Vs 1000001;refine Bg (tb:=⟨pt [(152,KM.kc),(153,HZ.kc),(154,DF.kc),(155,OV.kc)],ht [(156,km Oo (λi D b=>IS i D b/\eQ.ws i.l<1000001) BI)]⟩) jv jl (jF 19342850151455133005856767 [] func111) (λa=>1000005) (λD j b=>by simp at b;exact iA.inj b) G nl9 ?_;rintro a ⟨m,aX,av,aA⟩ d H;simp at H;obtain⟨_,⟨bn,rfl⟩,P⟩:=KM.use a m;obtain⟨_,⟨bB,bH,rfl⟩,Q⟩:=HZ.use a.kf m.1;obtain⟨_,⟨bC,bN,rfl⟩,R⟩:=DF.use a m;have hl:=m.2.1;simp[f111,H,P];refine fN (λf=>?_) (λf=>?_)
 ·simp
 simp[Q];refine fN (λf=>?_) (λf=>?_)
 ·simp
 simp;refine fN (λf=>?_) (λf=>?_)
 ·simp
 simp[R];refine fN (λf=>?_) (λf=>?_)
 ·simp
 simp;refine ik a.ee.length B (λo d b=>b=hE.cons (X 2 0 [a.t])/\Y d 1 (.fc 0 0 0 0)/\(∃q,Y d 8 (C q))/\Y d 9 (C o)) ?_ ?_ B G
 ·rintro i d b k x ⟨rfl,g,⟨q,u⟩,w⟩;obtain⟨_,⟨c,rfl⟩,U⟩:=OV.use a.ee[i].body (by have:=(m.2.2 _ (aG k)).2;omega);simp[g,u,w,k,U,qm,x]
 rintro d b ⟨rfl,g,⟨q,u⟩,w⟩;simp[g,u,w];refine fN (λf=>?_) (λf=>?_)
 ·simp
 simp[g];have aN:∀{i:Nat} (K:i<a.ee.length),sM (a.ee.take (i+1))=sM (a.ee.take i)+eQ.ws a.ee[i].body:=λ{i} K=>by
  unfold sM;rw[aP K,List.map_append,List.sum_append];simp
 have aE:∀i,sM (a.ee.take i)<=1000000:=λi=>by
  have:sM a.ee<=1000000:=aX;have ap:sM a.ee=sM (a.ee.take i)+sM (a.ee.drop i):=by unfold sM;rw[<-List.sum_append,<-List.map_append,df]
  omega
 refine ik a.ee.length B (λo d b=>Wk a [] (sM (a.ee.take o)) b 1/\Lb 1 b 0 (X 2 0 [a.t])/\Y d 1 (.fc 0 0 0 0)/\Y d 10 (.fc 1 0 0 0)/\Y d 11 (C o)) ?_ ?_ B ?_
 ·rintro i d b k x ⟨r,p,g,s,n⟩;have an:=aN k;have bs:=aE (i+1);have⟨bA,bu,bi,sv,bp,S,E,F,gA,al,ae,W,Z,ab⟩:=r.ex;have⟨a8,bg⟩:=r.eJ F gA al ae W Z ab i;have N:=p.step a8;simp[p.get,g,s,n,k,F,fG,N.get];refine jB a7 G ⟨a,[],sM (a.ee.take i),1,a.ee[i].body⟩ ⟨⟨rfl,bg,m,dS,dS,G,av _ (aG k),aA⟩,dS⟩ ?_;rintro _ ap ⟨⟨e,q,rfl⟩,O,A⟩;simp only at O A;have a6:=N.step O;simp;refine fN (λf=>?_) (λf=>?_)
  ·simp[A.ok.hp]
  ·simp[g,s,n,x];exact⟨by rw[an];exact A,a6⟩
 ·rintro d b ⟨r,p,g,s,n⟩;simp[p.get,g,n,r.ok.hp]
 ·have J:((hE.cons (X 2 0 [a.t])).cons (X 6 0 [.eZ [sl (a.kf.map jo.t),sl (a.ee.map iJ.t),C 0,dV,dV,dV]])).get 1=some (X 6 0 [.eZ [sl (a.kf.map jo.t),sl (a.ee.map iJ.t),C 0,dV,dV,dV]]):=G;have I:∀j,Fp ((hE.cons (X 2 0 [a.t])).cons (X 6 0 [.eZ [sl (a.kf.map jo.t),sl (a.ee.map iJ.t),C 0,dV,dV,dV]])) 1 j->j=1:=λj h=>by
   rcases h with rfl|⟨z,y,v,L,h⟩
   ·rfl
   ·rw[J]at y;simp only[aw]at y;subst y;simp[iq,T.cells]at L;rcases L with rfl|rfl|rfl|rfl|rfl|rfl<;>simp at h
  simp[g];exact⟨⟨⟨G,G,G⟩,λj h=>by rw[I j h];simp,0,0,_,_,_,[],[],J,Gr.nil _ _,Gr.nil _ _,Gr.nil _ _,G,G,G⟩,G,λh=>absurd (I 0 h) dT⟩
