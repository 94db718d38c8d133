/- W04b -/
import Derived.Test.YtajpdafdickapaaGreatDoorA19
set_option linter.all false
set_option maxRecDepth 100000
set_option maxHeartbeats 8000000
namespace Go.Proofs.YtajpdafdickapaaGreatDoor
noncomputable section
open Go Go.TI Tryz
attribute [-simp] List.map_take List.map_drop List.map_append fw eY eg Bool.not_or Bool.not_and
attribute [simp] fq eZ
def WS(a:H)(j:Nat):Prop:=∃i d e f c g h,∃b:List dO,a.get j=some (dE 6 i [.agg [d,e,f,c,g,h]])/\Gr a c 11 (b.map dO.t)/\b.length<=1000000/\hU 0 a
def Gz:li:=⟨λd a=>∃b c e h,d=[.ptr b 0 0 0,Z c,Z e,.str h]/\WS a b,λ_ a g f=>f=a/\F1 g⟩
def QR:Gz.Ok prog cx 232:=by
 refine J6 (tb:=⟨pt [],ht []⟩) iL iB (iQ 70368744310543 [] func232) false (λ_ _=>1000005) (λO b M=>by obtain⟨g,y,e,G,rfl,_⟩:=M;simp[f232]) ?_;rintro _ b ⟨g,y,e,G,rfl,ae,P,Q,R,z,S,T,h,s,n,hl,v⟩ d B;simp at B;obtain⟨f,i,j,k⟩:=B;have u:=H.fa s;simp[f232];refine fk h.length J (λo d c=>Fr b.size (hr b) c/\hU 0 c/\dF d 0 (.ptr g 0 0 0)/\dF d 1 (Z y)/\dF d 2 (Z e)/\dF d 3 (.str G)/\dF d 9 (Z o)) ?_ ?_ J (by simp[f,i,j,k,Fr.refl,v.hr])
 ·rintro o d c D K ⟨a,w,f,i,j,k,m⟩;have p:=(a.get g u).trans ((gU b g).trans s);have l:Gr c z 11 (h.map dO.t):=n.mono λe q=>by have⟨_,_,_,_,x,_⟩:=n.box q;rw[a.get e (H.fa x),gU]
  have L:o<(h.map dO.t).length:=by simpa using D
  have⟨I,U,al,V,an,X,N,E,F⟩:=l.B0 (te:=H9) rfl L;have W:=Nat.ne_of_lt (bD u a.size);simp at F;have Y:(I=c.size)=False:=by simp;have:=H.fa E;omega
  simp[f,i,j,k,m,p,l.len (cx:=cx),N,E,F,D,w.low];have A:=a.trans (Fr.cons (lo:=b.size) (by have:b.size<=c.size:=a.size;omega) (dE 11 1 [h[o].t]))
  repeat' (refine ee (λC=>?_) (λC=>?_)<;>simp[C,f,i,j,k,m,K,A,w.cons])
  exact qK b _ _ v.hp A (r:= .bool true) rfl ⟨rfl,dy⟩
 ·rintro d c ⟨a,w,f,i,j,k,m⟩;have p:=(a.get g u).trans ((gU b g).trans s);have l:Gr c z 11 (h.map dO.t):=n.mono λe q=>by have⟨_,_,_,_,x,_⟩:=n.box q;rw[a.get e (H.fa x),gU]
  simp[f,m,p,l.len (cx:=cx)];exact qK b _ _ v.hp a (r:= .bool false) rfl ⟨rfl,dy⟩
structure Wk(p:fK)(A:List dO)(n:Nat)(h:H)(w:Nat):Prop where
 ok:hU 0 h
 fp:∀b,Fp h w b->b<h.size
 ex:∃ver t av sv ev,∃S E:List (List Nat),h.get w=some (dE 6 ver [.agg [sl (p.jt.map iC.t),sl (p.dH.map fO.t),Z t,av,sv,ev]])/\
  Gr h av 11 (A.map dO.t)/\Gr h sv 1 (S.map T.str)/\Gr h ev 1 (E.map T.str)/\S.length<=n/\E.length<=n/\∀b,dS sv=some b->dS ev≠some b
def Wk.ins{k:fK}{a:List dO}{j:Nat}{b:H}{d:Nat}(c:Wk k a j b d)(i:a.length<=1000000):WS b d:=by
 have⟨l,o,e,sv,f,n,m,g,h,_⟩:=c.ex;exact⟨l,_,_,_,e,sv,f,a,g,h,i,c.ok⟩
def tO{c:H}{d:Nat}{a:iX}(f:c.get d=some a){v:T}(g:v∈fF a.fc){b:Nat}(e:dS v=some b):Fp c d b:= .inr ⟨a,f,v,g,e⟩
def Wk.same{m:fK}{h:List dO}{l k:Nat}{c d:H}{g:Nat}(j:Wk m h l c g)(B:l<=k)(w:hU 0 d)(f:∀a,Fp c g a->d.get a=c.get a)(v:c.size<=d.size):Wk m h k d g:=by
 have⟨y,x,p,sv,q,o,n,e,r,s,t,z,A,u⟩:=j.ex;have i:=f g (.inl rfl);refine⟨w,λa b=>by rw[iT i]at b;exact bD (j.fp a b) v,y,x,p,sv,q,o,n,by rw[i];exact e,?_,?_,?_,J,J,u⟩
 ·exact r.mono λa b=>f a (tO e (by simp[fF,T.cells]) b)
 ·exact s.mono λa b=>f a (tO e (by simp[fF,T.cells]) b)
 ·exact t.mono λa b=>f a (tO e (by simp[fF,T.cells]) b)
def Wk.lt{f:fK}{c:List dO}{e:Nat}{b:H}{a:Nat}(d:Wk f c e b a):a<b.size:=d.fp a (.inl rfl)
theorem Wk.cons{e:fK}{b:List dO}{d:Nat}{c:H}{w:Nat}(a:Wk e b d c w)(f:iX):Wk e b d (c.cons f) w:=
 a.same (au _) (a.ok.cons f) (λg h=>by rw[dT,ao (by have:=a.fp g h;omega)]) dy 
def Wk.hr{e:fK}{b:List dO}{d:Nat}{a:H}{f:Nat}(c:Wk e b d a f):Wk e b d (TI.hr a) f:=c.same (au _) c.ok.hr (λg _=>gU a g) (au _)
def Wk.out{e:fK}{b:List dO}{d m:Nat}{h a:H}{f:Nat}(c:Wk e b d a f)(i:d<=m):Wk e b m (lO h a) f:=c.same i (c.ok.out h) (λg _=>fW h a g) (au _)
def Wk.spawn{a:fK}{m:List dO}{k d h:Nat}{c f:H}{g:Int}{e sv b l:T}{j n:List (List Nat)}{w:List Nat}(u:Wk a m k c d)(o:c.get d=some (dE 6 h [.agg [sl (a.jt.map iC.t),sl (a.dH.map fO.t),Z g,e,sv,b]]))
 (gA:Gr c e 11 (m.map dO.t)) (s:Gr c sv 1 (j.map T.str)) (C:Gr c b 1 (n.map T.str)) (F:j.length<=k) (G:n.length<=k) (B:∀r,dS sv=some r->dS b≠some r) (D:Cb c sv 1 (j.map T.str++[.str w]) l f):
 f.get d=some (dE 6 h [.agg [sl (a.jt.map iC.t),sl (a.dH.map fO.t),Z g,e,sv,b]])/\fh c f d=true/\
  Step d c (dY f d (dE 6 (h+1) [.agg [sl (a.jt.map iC.t),sl (a.dH.map fO.t),Z g,e,l,b]]))/\
  Wk a m (k+1) (dY f d (dE 6 (h+1) [.agg [sl (a.jt.map iC.t),sl (a.dH.map fO.t),Z g,e,l,b]])) d:=by
 have⟨p,E⟩:=xy (i:=4) u.ok u.fp o rfl dB s D.xt;have⟨q,z,A,v⟩:=E _ rfl;have⟨a1,a2⟩:=v e 11 _ dy gA (s.ne gA dB) dB;have⟨x,y⟩:=v b 1 _ dy C B dB;exact⟨p.trans o,fD p,q,⟨q.ok.hp,q.ok.low,aw _⟩,z,h+1,g,e,l,b,j++[w],n,by rw[dN (p.trans o),aq rfl],a1,by rw[List.map_append];exact A,x,dz,J,y⟩
def Wk.set{a:fK}{o:List dO}{m c k:Nat}{b h:H}{j:Int}{d sv g n:T}{p l:List (List Nat)}{x:List Nat}(f:Wk a o m b c)(q:b.get c=some (dE 6 k [.agg [sl (a.jt.map iC.t),sl (a.dH.map fO.t),Z j,d,sv,g]]))
 (gA:Gr b d 11 (o.map dO.t)) (D:Gr b sv 1 (p.map T.str)) (v:Gr b g 1 (l.map T.str)) (G:p.length<=m) (I:l.length<=m) (C:∀e,dS sv=some e->dS g≠some e) (E:Cb b g 1 (l.map T.str++[.str x]) n h):
 h.get c=some (dE 6 k [.agg [sl (a.jt.map iC.t),sl (a.dH.map fO.t),Z j,d,sv,g]])/\fh b h c=true/\
  Step c b (dY h c (dE 6 (k+1) [.agg [sl (a.jt.map iC.t),sl (a.dH.map fO.t),Z j,d,sv,n]]))/\
  Wk a o (m+1) (dY h c (dE 6 (k+1) [.agg [sl (a.jt.map iC.t),sl (a.dH.map fO.t),Z j,d,sv,n]])) c:=by
 have⟨s,F⟩:=xy (i:=5) f.ok f.fp q rfl dB v E.xt;have⟨u,A,B,w⟩:=F _ rfl;have⟨a1,a2⟩:=w d 11 _ dy gA (v.ne gA dB) dB;have⟨y,z⟩:=w sv 1 _ dy D (λe r f=>C e f r) dB;exact⟨s.trans q,fD s,u,⟨u.ok.hp,u.ok.low,aw _⟩,A,k+1,j,d,sv,n,p,l++[x],by rw[dN (s.trans q),aq rfl],a1,y,by rw[List.map_append];exact B,J,dz,λe r f=>z e f r⟩
def Wk.Zc{a:fK}{h:List dO}{k d g:Nat}{c e:H}{f:Int}{j sv b l:T}{n m:List (List Nat)}{x:dO}(v:Wk a h k c d)(o:c.get d=some (dE 6 g [.agg [sl (a.jt.map iC.t),sl (a.dH.map fO.t),Z f,j,sv,b]]))
 (gA:Gr c j 11 (h.map dO.t)) (u:Gr c sv 1 (n.map T.str)) (s:Gr c b 1 (m.map T.str)) (B:n.length<=k) (C:m.length<=k) (D:∀r,dS sv=some r->dS b≠some r) (E:Cb c j 11 (h.map dO.t++[x.t]) l e):
 e.get d=some (dE 6 g [.agg [sl (a.jt.map iC.t),sl (a.dH.map fO.t),Z f,j,sv,b]])/\fh c e d=true/\
  Step d c (dY e d (dE 6 (g+1) [.agg [sl (a.jt.map iC.t),sl (a.dH.map fO.t),Z f,l,sv,b]]))/\
  Wk a (h++[x]) k (dY e d (dE 6 (g+1) [.agg [sl (a.jt.map iC.t),sl (a.dH.map fO.t),Z f,l,sv,b]])) d:=by
 have⟨p,F⟩:=xy (i:=3) v.ok v.fp o rfl dB gA E.xt;have⟨q,z,A,w⟩:=F _ rfl;have⟨a1,a2⟩:=w sv 1 _ dy u (gA.ne u dB) dB;have⟨y,G⟩:=w b 1 _ dy s (gA.ne s dB) dB;exact⟨p.trans o,fD p,q,⟨q.ok.hp,q.ok.low,aw _⟩,z,g+1,f,l,sv,b,n,m,by rw[dN (p.trans o),aq rfl],by rw[List.map_append];exact A,a1,y,B,C,D⟩
def Wk.back{b:fK}{p:List dO}{o i k:Nat}{d:H}{j:Int}{m sv f h:T}{r q:List (List Nat)}{G:dO}(g:Wk b (p++[G]) o d i)(c:d.get i=some (dE 6 k [.agg [sl (b.jt.map iC.t),sl (b.dH.map fO.t),Z j,m,sv,f]]))
 (E:Gr d sv 1 (r.map T.str)) (D:Gr d f 1 (q.map T.str)) (A:r.length<=o) (B:q.length<=o) (C:∀e,dS sv=some e->dS f≠some e) (gA:Gr d h 11 (p.map dO.t)) (n:dS h=dS m):
   Step i d (dY d i (dE 6 (k+1) [.agg [sl (b.jt.map iC.t),sl (b.dH.map fO.t),Z j,h,sv,f]]))/\
   Wk b p o (dY d i (dE 6 (k+1) [.agg [sl (b.jt.map iC.t),sl (b.dH.map fO.t),Z j,h,sv,f]])) i:=by
 have w:=Step.put g.ok c (dE 6 (k+1) [.agg [sl (b.jt.map iC.t),sl (b.dH.map fO.t),Z j,h,sv,f]]) (λv l e a=>by
  simp[fF,T.cells]at l;rcases l with rfl|rfl|rfl|rfl|rfl|rfl
  ·simp at a
  ·simp at a
  ·simp at a
  ·exact .inl (tO c (v:=m) (by simp[fF,T.cells]) (by rw[<-n];exact a))
  ·exact .inl (tO c (v:=v) (by simp[fF,T.cells]) a)
  ·exact .inl (tO c (v:=v) (by simp[fF,T.cells]) a))
 have u:∀{v:T} {x:Nat} {y:List T},Gr d v x y->x≠6->Gr (dY d i (dE 6 (k+1) [.agg [sl (b.jt.map iC.t),sl (b.dH.map fO.t),Z j,h,sv,f]])) v x y:=λz F=>z.mono λe n=>by
  have⟨_,_,_,_,a,_⟩:=z.box n;rw[dN c,ao (λg=>by subst g;rw[c]at a;simp at a;exact F a.1.symm)]
 refine⟨w,⟨w.ok.hp,w.ok.low,aw _⟩,λe a=>?_,k+1,j,h,sv,f,r,q,by rw[dN c,aq rfl],u gA dB,u E dB,u D dB,A,B,C⟩;rw[fJ];rcases a with rfl|⟨I,s,v,l,a⟩
 ·exact g.lt
 rw[dN c,aq rfl]at s;simp only[ar]at s;subst s;simp[fF,T.cells]at l;rcases l with rfl|rfl|rfl|rfl|rfl|rfl
 ·simp at a
 ·simp at a
 ·simp at a
 ·exact g.fp e (tO c (v:=m) (by simp[fF,T.cells]) (by rw[<-n];exact a))
 ·exact g.fp e (tO c (v:=v) (by simp[fF,T.cells]) a)
 ·exact g.fp e (tO c (v:=v) (by simp[fF,T.cells]) a)
def Wk.dP{b:fK}{n:List dO}{m h k:Nat}{d:H}{G:Int}{f sv e:T}{p o:List (List Nat)}(l:Wk b n m d h)(g:d.get h=some (dE 6 k [.agg [sl (b.jt.map iC.t),sl (b.dH.map fO.t),Z G,f,sv,e]]))
 (gA:Gr d f 11 (n.map dO.t)) (D:Gr d sv 1 (p.map T.str)) (C:Gr d e 1 (o.map T.str)) (z:p.length<=m) (A:o.length<=m) (B:∀c,dS sv=some c->dS e≠some c) (j:Int):
   Step h d (dY d h (dE 6 (k+1) [.agg [sl (b.jt.map iC.t),sl (b.dH.map fO.t),Z j,f,sv,e]]))/\
   Wk b n m (dY d h (dE 6 (k+1) [.agg [sl (b.jt.map iC.t),sl (b.dH.map fO.t),Z j,f,sv,e]])) h:=by
 have y:∀v∈ [sl (b.jt.map iC.t),sl (b.dH.map fO.t),Z j,f,sv,e],∀c,dS v=some c->Fp d h c:=λv i c a=>by
  simp at i;rcases i with rfl|rfl|rfl|rfl|rfl|rfl
  ·simp at a
  ·simp at a
  ·simp at a
  ·exact tO g (v:=v) (by simp[fF,T.cells]) a
  ·exact tO g (v:=v) (by simp[fF,T.cells]) a
  ·exact tO g (v:=v) (by simp[fF,T.cells]) a
 have s:=Step.put l.ok g (dE 6 (k+1) [.agg [sl (b.jt.map iC.t),sl (b.dH.map fO.t),Z j,f,sv,e]]) (λv i c a=> .inl (y v (by simpa[fF,T.cells]using i) c a));have r:∀{v:T} {u:Nat} {w:List T},Gr d v u w->u≠6->Gr (dY d h (dE 6 (k+1) [.agg [sl (b.jt.map iC.t),sl (b.dH.map fO.t),Z j,f,sv,e]])) v u w:=λx F=>x.mono λc E=>by
  have⟨_,_,_,_,a,_⟩:=x.box E;rw[dN g,ao (λl=>by subst l;rw[g]at a;simp at a;exact F a.1.symm)]
 refine⟨s,⟨s.ok.hp,s.ok.low,aw _⟩,λc a=>?_,k+1,j,f,sv,e,p,o,by rw[dN g,aq rfl],r gA dB,r D dB,r C dB,z,A,B⟩;rw[fJ];rcases a with rfl|⟨I,q,v,i,a⟩
 ·exact l.lt
 rw[dN g,aq rfl]at q;simp only[ar]at q;subst q;exact l.fp c (y v (by simpa[fF,T.cells]using i) c a)
structure Zl where
 (p:fK) (A:List dO) (n w:Nat) (s:dO)
def XC(a:Zl)(c:List T)(d:H):Prop:=c=[.ptr a.w 0 0 0,a.s.t]/\Wk a.p a.A a.n d a.w/\TR a.p/\a.n<=10000000/\a.s.w<=1000000/\a.A.length<=1000000/\
 (9<=a.s.op/\a.s.op<=11->∃b,b<a.p.jt.length/\sN (a.p.jt.map iC.name) a.s.name 0=b)
def L8(a:Zl)(e:List T)(c:H)(d:T)(b:H):Prop:=F0 d/\Step a.w c b/\Wk a.p a.A (a.n+1) b a.w
noncomputable abbrev abD:li:=jI Zl XC L8
def abY:abD.Ok prog cx 195:=by
 obtain⟨L,dd⟩:=hlB QR (λ_ _ _ _ o=>o);refine jx (tb:=⟨pt [(234,AT.jA),(235,Dl.jA),(233,XO.jA),(236,FL.jA),(130,C4),(193,ox),(194,md)],ht [(232,Gz)]⟩) iL iB (iQ 14474012017383023515249485065460760621927424225494418519668988771800801378299 [(1,[(7,9)]),(8,[(4,5),(4,8)]),(9,[(4,5),(4,8),(4,9),(4,10),(4,12),(11,12),(4,15),(11,15)]),(28,[(2,7)]),(49,[(4,5),(4,8)])] func195) (λ_ _=>5) (λi l h dm=>by obtain⟨rfl,_⟩:=dm;simp[f195]) ?_;rintro⟨d,A,n,f,a⟩ _ h ⟨rfl,k,y,dk,dn,bu,bH⟩ eC bB;simp only at k y dk dn bu bH;simp at bB;obtain⟨F,c9⟩:=bB;have s:=(k.hr.cons (dE 11 0 [a.t])).cons (dE 2 1 [d.t]);have H:Step f h (lO h (((hr h).cons (dE 11 0 [a.t])).cons (dE 2 1 [d.t]))):=
  ((Step.cons k.ok.hr k.lt _).trans (Step.cons (k.hr.cons _).ok (k.hr.cons _).lt _)).out
 have eb:Step f (hr h) (((hr h).cons (dE 11 0 [a.t])).cons (dE 2 1 [d.t])):=(Step.cons k.ok.hr k.lt _).trans (Step.cons (k.hr.cons _).ok (k.hr.cons _).lt _);have I:=s.out (h:=h) (m:=n+1) J;have N:∀o:Int,9<=o/\o<=11->decide (a.op=o)=true->∃m:Nat,m<d.jt.length/\sN (d.jt.map iC.name) a.name 0=m:=λo et O=>bH (by simp at O;omega);have ae:=λ{tb:fy} (ht:tb.h 232=some Gz) l b z=>dd ht [.ptr f 0 0 0,Z l,Z b,.str z] _ ⟨f,l,b,z,rfl,s.ins bu⟩;have eu:=k.lt;have bN:(f=h.size)=False:=dz;have bS:(f=h.size+1)=False:=dz;have c6:(((hr h).cons (dE 11 0 [a.t])).cons (dE 2 1 [d.t])).get f=h.get f:=by simp[bN,bS]
 obtain⟨eB,z,b7,sv,cL,S,E,w,gA,bs,bn,a6,a7,a8⟩:=s.ex;have aX:=c6.symm.trans w;have c4:=bs.qP dy;have c1:=bn.qP dy;have cp:=λ{tb:fy} (h:tb.p 130=some C4) x=>Pe h S x J;have cb:=λ{tb:fy} (h:tb.p 130=some C4) x=>Pe h E x J;obtain⟨Nw,U⟩:=AT.fnI (λc:List Nat×Int×Int=>(d,z,c)) (λ_=>y);have U:=λ{tb:fy} (ht:tb.p 234=some AT.jA) x l b=>U ht (x,l,b);obtain⟨ef,aE⟩:=FL.fnI (λb:Bool=>b) (λ_=>trivial);have R:∀{tb:fy},tb.p 233=some XO.jA->∀l b,rl prog cx tb 233 [Z l,Z b]=some (Z (if l=0 then b else l)):=λht l b=>by
  obtain⟨_,rfl,O⟩:=XO.use (l,b) trivial;exact O ht
 have ds:=a.lI;obtain⟨_,⟨ey,rfl⟩,Q⟩:=Dl.use (d,z,a.e) ⟨y,dA⟩;have eT:=λ{tb:fy} (h:tb.p 194=some md) x=>xK h d.dH x (by have:=y.2.1;omega);have ca:=λ{tb:fy} (h:tb.p 193=some ox) x=>Cw h d.jt x (by have:=y.1;omega);simp[f195,F,c9,aX,bN,bS,ae];have u:(((hr h).cons (dE 11 0 [a.t])).cons (dE 2 1 [d.t])).get h.size=some (dE 11 0 [a.t]):=dy;have M:(((hr h).cons (dE 11 0 [a.t])).cons (dE 2 1 [d.t])).get (h.size+1)=some (dE 2 1 [d.t]):=dy;have G:(((hr h).cons (dE 11 0 [a.t])).cons (dE 2 1 [d.t])).size=h.size+2:=dy;generalize(((hr h).cons (dE 11 0 [a.t])).cons (dE 2 1 [d.t]))=j at*
 generalize L [T.ptr f 0 0 0,T.int IntKind.i64 7,T.int IntKind.i64 7,T.str []] j=eh;generalize L [T.ptr f 0 0 0,T.int IntKind.i64 8,T.int IntKind.i64 8,T.str []] j=eo;generalize L [T.ptr f 0 0 0,T.int IntKind.i64 3,T.int IntKind.i64 3,T.str []] j=er;have V:=(show(j.cons (dE 1 0 [.str a.name])).get f=j.get f from by rw[dT,ao J]).trans w;have K:=s.cons (dE 1 0 [.str a.name]);have bX:=eb.trans (Step.cons s.ok s.lt (dE 1 0 [.str a.name]));have Y:∀{v:T} {b6:Nat} {aN:List T},v=b7\/v=sv\/v=cL->Gr j v b6 aN->Gr (j.cons (dE 1 0 [.str a.name])) v b6 aN:=λdv g=>g.mono λb bC=>by
  have:b<j.size:=s.fp b (tO w (v:=_) (by rcases dv with rfl|rfl|rfl<;>simp[fF,T.cells]) bC);rw[dT,ao J]
 have X:=Y dy bs;have W:=Y dy bn;have bi:=Y dy gA
 repeat' (refine ee (λq=>?_) (λq=>?_)<;>simp[q,F,w,u,M,ae,U,aE,R,Q,eT,ca,L8,H,I])
 ·cases al:a.index with
  |nil=>rename_i q;simp[al]at q
  |cons x r=>
   obtain⟨_,⟨eA,rfl⟩,cy⟩:=Dl.use (d,z,x) ⟨y,by simp only;rw[al,dV.ke]at ds;omega⟩;simp[u,M,R,Q,H,I,al,cy]
 iterate 3
  ·obtain⟨m,de,di⟩:∃m,m<d.jt.length/\sN (d.jt.map iC.name) a.name 0=m:=by first|exact N 9 J (by assumption)|exact N 10 J (by assumption)|exact N 11 J (by assumption)
   simp[u,ae,aE,H,I,de,di]
 ·simp[c4,cp];refine ee (λq=>?_) (λq=>?_)
  ·simp[H,I]
  obtain⟨ec,c7,P,B⟩:=X.app (cx:=cx) K.ok (x:= .arr (h.size+2) 0 0 1 false) (xs:=[.str a.name]) rn rfl wW rn rfl rfl dy (by rw[ik];simp[G]) (by simp[T.cells]) dy dz;obtain⟨an,ea,D,ap⟩:=K.spawn V bi X W a6 a7 a8 B;have C:=B.gr;have av:=(bX.trans D).out;have aA:=ap.out (h:=h) (au _);simp[F,w,u,G,P,an,C.ir,C.cells,dX,av,aA]
 ·obtain⟨ec,c7,P,B⟩:=W.app (cx:=cx) K.ok (x:= .arr (h.size+2) 0 0 1 false) (xs:=[.str a.name]) rn rfl wW rn rfl rfl dy (by rw[ik];simp[G]) (by simp[T.cells]) dy dz;obtain⟨an,ea,D,ap⟩:=K.set V bi X W a6 a7 a8 B;have C:=B.gr;have av:=(bX.trans D).out;have aA:=ap.out (h:=h) (au _);have bT:∀b,h.size<=b->¬Fp (j.cons (dE 1 0 [.str a.name])) f b:=λb bC o=>by rw[iT (V.trans aX.symm)]at o;have:=k.fp b o;omega
  have b8:=(D.get h.size dz (bT _ (au _))).trans ((show(j.cons (dE 1 0 [.str a.name])).get h.size=j.get h.size by rw[dT,ao J]).trans u);have b9:=(D.get (h.size+1) dz (bT _ J)).trans ((show(j.cons (dE 1 0 [.str a.name])).get (h.size+1)=j.get (h.size+1)by rw[dT,ao J]).trans M);simp[c1,cb];refine ee (λq=>?_) (λq=>?_)<;>simp[F,w,u,G,P,an,C.ir,C.cells,dX,av,aA,b8,b9,Q,R]
structure LM where
 (p:fK) (A:List dO) (n w:Nat) (l:List dO)
def GD(a:LM)(c:List T)(d:H):Prop:=c=[.ptr a.w 0 0 0,sl (a.l.map dO.t)]/\Wk a.p a.A a.n d a.w/\TR a.p/\a.n+dO.ws a.l<=10000000/\dO.ws a.l<=1000000/\a.A.length<=6/\(∀e∈a.l,MS e)/\
 ∃b,b<a.p.jt.length/\sN (a.p.jt.map iC.name) [99] 0=b
def zw(a:LM)(e:List T)(c:H)(d:T)(b:H):Prop:=I7 d/\Step a.w c b/\Wk a.p a.A (a.n+dO.ws a.l) b a.w
def SQ(A:Nat)(bT:(jI LM (λf a m=>GD f a m/\dO.ws f.l<A) zw).Ok prog cx 152):(jI LM (λf a m=>GD f a m/\dO.ws f.l<A+1) zw).Ok prog cx 152:=by
 refine jx (tb:=⟨pt [],ht [(195,abD),(152,jI LM (λf a m=>GD f a m/\dO.ws f.l<A) zw)]⟩) iL iB (iQ 151115745466229840684019 [(10,[(8,12),(9,12)])] func152) (λ_ _=>1000005) (λf a m ea=>by obtain⟨⟨rfl,_⟩,_⟩:=ea;simp[f152]) ?_;rintro⟨I,c,n,j,l⟩ _ m ⟨⟨rfl,a7,P,dv,ef,dm,bB,O⟩,ds⟩ B bC;simp only at a7 P dv ef dm bB O ds;simp at bC;obtain⟨i,w⟩:=bC;have hl:=dO.vk (l:=l);simp[f152];refine fk l.length J (λA B F=>Step j (hr m) F/\Wk I c (n+dO.ws (l.take A)) F j/\dF B 0 (.ptr j 0 0 0)/\dF B 1 (sl (l.map dO.t))/\dF B 6 (Z A)) ?_ ?_ J (by simp[i,w,dO.iW,a7.hr,Step.refl a7.ok.hr])
 ·rintro f B F aA bH ⟨aN,s,i,w,G⟩;have bS:=dO.Gt l aA;have eM:=dO.yp l (f+1);have aE:=bB l[f] (aD aA);simp[i,w,G,aA,s.ok.low];generalize l[f]=d at*
  have eL:=d.lI;refine iy abY dy ⟨I,c,n+dO.ws (l.take f),j,d⟩ ⟨rfl,s.cons _,P,dA,dA,dA,λq=>by simp only;rw[aE.cond q];exact O⟩ ?_;rintro _ p ⟨⟨e,rfl⟩,aX,k⟩;simp only at aX k;have H:=(Lb.new s.lt s.fp (dE 11 1 [d.t])).step aX;have b8:=(aN.trans (Step.cons s.ok s.lt _)).trans aX;have⟨eS,t,cy,sv,c1,S,E,L,gA,di,de,c7,c9,dd⟩:=k.ex;have bu:∀r,I7 r->zw ⟨I,c,n,j,l⟩ [.ptr j 0 0 0,sl (l.map dO.t)] m r (lO m p):=λr hr=>⟨hr,b8.out,k.out dA⟩;have an:=iz (a:=(c.length:Int)) (b:=1) J J;simp[i,L,gA.len (cx:=cx),an];refine ee (λo=>?_) (λo=>?_)
  ·simp[H.get];exact bu _ dy
  have eH:c.length<=5:=by simp at o;omega
  simp;refine ee (λo=>?_) (λo=>?_)
  ·simp[H.get];exact bu _ dy
  have eN:(j=p.size)=False:=by simp;have:=k.lt;omega
  have eF:(F.size=p.size)=False:=by simp;have:=H.lt;omega
  have ca:=k.cons (dE 11 0 [.agg [Z 0,Z 0,.str [],.str [],dD,Z 0,Z 0,.str [],dD,dD,dD]]);have eo:=b8.trans (Step.cons k.ok k.lt (dE 11 0 [.agg [Z 0,Z 0,.str [],.str [],dD,Z 0,Z 0,.str [],dD,dD,dD]]));have c6:=(show(p.cons (dE 11 0 [.agg [Z 0,Z 0,.str [],.str [],dD,Z 0,Z 0,.str [],dD,dD,dD]])).get j=p.get j by rw[dT,ao (by have:=k.lt;omega)]).trans L;have M:∀{v:T} {b9:Nat} {bs:List T},v=cy\/v=sv\/v=c1->Gr p v b9 bs->Gr (p.cons (dE 11 0 [.agg [Z 0,Z 0,.str [],.str [],dD,Z 0,Z 0,.str [],dD,dD,dD]])) v b9 bs:=λec g=>g.mono λb an=>by
   have:b<p.size:=k.fp b (tO L (v:=_) (by rcases ec with rfl|rfl|rfl<;>simp[fF,T.cells]) an);rw[dT,ao J]
  have⟨R,eE,bn,bi⟩:=(M dy gA).app (cx:=cx) ca.ok (x:= .arr p.size 0 0 1 false) (xs:=[.agg [Z 0,Z 0,.str [],.str [],dD,Z 0,Z 0,.str [],dD,dD,dD]]) Al rfl Aj Al rfl rfl dy (by rw[ik];simp) (by simp[T.cells]) dy dz;obtain⟨b,eC,eU,eD,rfl,N,eI⟩:=id bi;have a2:=bi.set N c.length d.t;have eb:(List.map dO.t c++[T.agg [Z 0,Z 0,.str [],.str [],dD,Z 0,Z 0,.str [],dD,dD,dD]]).set c.length d.t=List.map dO.t c++[d.t]:=dy;rw[eb]at a2;simp only[aS,aG,aT,cQ]at a2 bn;have⟨Q,eR,b6,eh⟩:=ca.Zc c6 (M dy gA) (M dy di) (M dy de) c7 c9 dd a2;have bN:b≠j:=λq=>by subst q;rw[dN N,aq rfl]at Q;simp at Q
  have bX:=(H.step (Step.cons k.ok k.lt _)).step b6;simp[i,L,H.get,gA.len (cx:=cx),bn,N,dX,Q,Bv Q _ bN,Bv N _ (bm bN),bX.get];refine iy bT dy ⟨I,c++[d],n+dO.ws (l.take f)+1,j,d.body⟩ ⟨⟨rfl,eh,P,dA,dA,dz,aE.bd,O⟩,dA⟩ ?_;rintro _ dk ⟨⟨eA,eO,rfl⟩,a6,a8⟩;simp only at a6 a8;have er:=eo.trans b6;have l4:=bX.step a6;have Ie:=er.trans a6;simp;refine ee (λo=>?_) (λo=>?_)
  ·simp[i,l4.get];refine iy bT dy ⟨I,c++[d],n+dO.ws (l.take f)+1+dO.ws d.body,j,d.OH⟩ ⟨⟨rfl,a8,P,dA,dA,dz,aE.el,O⟩,dA⟩ ?_;rintro _ al ⟨⟨eB,eP,rfl⟩,b7,C⟩;simp only at b7 C;replace Ie:=Ie.trans b7;simp[i];have⟨ey,eu,cL,et,c4,cp,cb,u,D,ae,Y,V,W,X⟩:=C.ex;have⟨R,U,h,ap⟩:=D.cut (cx:=cx) (ty:=Ia) (te:=H9) rfl Aj rfl (n:=c.length) dy dy;have h:Gr al R 11 (c.map dO.t):=by rw[List.map_append,cX dy]at h;rwa[bL dy]at h
   have⟨K,z⟩:=C.back u ae Y V W X h ap;have dn:(c++[d]).length=c.length+1:=dy;have y:=kx (a:=((c++[d]).length:Int)) (b:=1) J J;have av:((c++[d]).length:Int)-1=(c.length:Int):=dy;rw[av]at y;simp[i,u,D.len (cx:=cx)];simp at y;simp[y,U,h.ir,h.cells,dX,u];refine ee (λo=>?_) (λo=>?_)
   ·simp;exact⟨dy,(Ie.trans K).out,z.out dA⟩
   ·simp[i,w,G,bH];exact⟨Ie.trans K,by rw[bS];exact z.same J z.ok (λ_ _=>rfl) (au _)⟩
  ·have C:=a8;generalize dk=al at*
   simp[i];have⟨ey,eu,cL,et,c4,cp,cb,u,D,ae,Y,V,W,X⟩:=C.ex;have⟨R,U,h,ap⟩:=D.cut (cx:=cx) (ty:=Ia) (te:=H9) rfl Aj rfl (n:=c.length) dy dy;have h:Gr al R 11 (c.map dO.t):=by rw[List.map_append,cX dy]at h;rwa[bL dy]at h
   have⟨K,z⟩:=C.back u ae Y V W X h ap;have dn:(c++[d]).length=c.length+1:=dy;have y:=kx (a:=((c++[d]).length:Int)) (b:=1) J J;have av:((c++[d]).length:Int)-1=(c.length:Int):=dy;rw[av]at y;simp[i,u,D.len (cx:=cx)];simp at y;simp[y,U,h.ir,h.cells,dX,u];refine ee (λo=>?_) (λo=>?_)
   ·simp;exact⟨dy,(Ie.trans K).out,z.out dA⟩
   ·simp[i,w,G,bH];exact⟨Ie.trans K,by rw[bS];exact z.same J z.ok (λ_ _=>rfl) (au _)⟩
 ·rintro B F ⟨aN,s,i,w,G⟩;rw[aK]at s;simp[w,G];exact⟨dy,aN.out,s.out (au _)⟩
def FN:oa prog cx 149 (λa:List iC=>[sl (a.map iC.t)]) (λa=>a.length<=1000000) (λ_=>I7):=by
 refine jk [(193,ox)] (iQ 1242795222330225588904675325 [] func149) (λH=>1000005) (λB C c=>jz (λ_ _=>iC.inj) (by simpa using c)) ?_;rintro a hl b r;simp at r;simp[f149];refine fk a.length J (λx b c=>hU 0 c/\dF b 0 (sl (a.map iC.t))/\(∃d,dF b 4 (Z d))/\(∃d,dF b 5 (Z d))/\(∃d,dF b 6 (Z d))/\(∃d,dF b 7 (Z d))/\dF b 8 (Z x)) ?_ ?_ J (by simp[r];exact⟨dy,dy,dy⟩)
 ·rintro i b c j s ⟨e,f,⟨D,m⟩,⟨E,n⟩,⟨F,o⟩,⟨G,q⟩,g⟩;have l:=λ{z:fy} (c:z.p 193=some ox) A=>Cw c (a.take i) A (by rw[List.length_take];omega);simp[f,g,j,e.low,l,bw j];rcases HU ((a.take i).map iC.name) a[i].on 0 with k|⟨y,v,k⟩
  ·generalize a[i]=u at*
   repeat' (refine ee (λh=>?_) (λh=>?_)<;>simp[h,f,m,n,o,q,g,e.hp,e.cons,l,bw j,oN,s,k])
  ·simp at v k;have w:y<a.length:=J;generalize a[i]=u at*
   repeat' (refine ee (λh=>?_) (λh=>?_)<;>simp[h,f,m,n,o,q,g,e.hp,e.cons,l,bw j,oN,s,k,w])
 ·rintro b c ⟨e,f,_,_,_,_,g⟩;simp[f,g,e.hp]
def KH(a:fK):Prop:=TR a/\(a.dH.map λb=>dO.ws b.body).sum<=1000000/\(∀b∈a.dH,∀d∈b.body,MS d)/\∃c,c<a.jt.length/\sN (a.jt.map iC.name) [99] 0=c
def qv(a:List fO):Nat:=(a.map λb=>dO.ws b.body).sum
def j7:oa prog cx 102 (λa:fK=>[a.t]) KH (λ_=>I7):=by
 have aE:=xP (λi:LM=>dO.ws i.l) SQ 1000001;refine yV (tb:=⟨pt [(148,ID.jA),(149,FN.jA),(150,BE.jA),(151,Mg.jA)],ht [(152,jI LM (λi B b=>GD i B b/\dO.ws i.l<1000001) zw)]⟩) iL iB (iQ 19342850151455133005856767 [] func102) (λa=>1000005) (λB j b=>by simp at b;exact fK.inj b) dy nl9 ?_;rintro a ⟨m,av,ae,al⟩ d D;simp at D;obtain⟨_,⟨a7,rfl⟩,M⟩:=ID.use a m;obtain⟨_,⟨bs,bB,rfl⟩,N⟩:=FN.use a.jt m.1;obtain⟨_,⟨bu,bC,rfl⟩,O⟩:=BE.use a m;have hl:=m.2.1;simp[f102,D,M];refine ee (λf=>?_) (λf=>?_)
 ·simp
 simp[N];refine ee (λf=>?_) (λf=>?_)
 ·simp
 simp;refine ee (λf=>?_) (λf=>?_)
 ·simp
 simp[O];refine ee (λf=>?_) (λf=>?_)
 ·simp
 simp;refine fk a.dH.length J (λo d b=>b=hE.cons (dE 2 0 [a.t])/\dF d 1 (.ptr 0 0 0 0)/\(∃q,dF d 8 (Z q))/\dF d 9 (Z o)) ?_ ?_ J dy
 ·rintro i d b k x ⟨rfl,g,⟨q,u⟩,w⟩;obtain⟨_,⟨c,rfl⟩,P⟩:=Mg.use a.dH[i].body (by have:=(m.2.2 _ (aD k)).2;omega);simp[g,u,w,k,P,oN,x]
 rintro d b ⟨rfl,g,⟨q,u⟩,w⟩;simp[g,u,w];refine ee (λf=>?_) (λf=>?_)
 ·simp
 simp[g];have ap:∀{i:Nat} (H:i<a.dH.length),qv (a.dH.take (i+1))=qv (a.dH.take i)+dO.ws a.dH[i].body:=λ{i} H=>by
  unfold qv;rw[aR H,List.map_append,List.sum_append];simp
 have an:∀i,qv (a.dH.take i)<=1000000:=λi=>by
  have:qv a.dH<=1000000:=av;have Y:qv a.dH=qv (a.dH.take i)+qv (a.dH.drop i):=by unfold qv;rw[<-List.sum_append,<-List.map_append,cT]
  omega
 refine fk a.dH.length J (λo d b=>Wk a [] (qv (a.dH.take o)) b 1/\Lb 1 b 0 (dE 2 0 [a.t])/\dF d 1 (.ptr 0 0 0 0)/\dF d 10 (.ptr 1 0 0 0)/\dF d 11 (Z o)) ?_ ?_ J ?_
 ·rintro i d b k x ⟨r,p,g,s,n⟩;have X:=ap k;have bi:=an (i+1);have⟨bn,t,a6,sv,a8,S,E,C,gA,W,V,Q,R,U⟩:=r.ex;have⟨aN,aX⟩:=r.dP C gA W V Q R U i;have K:=p.step aN;simp[p.get,g,s,n,k,C,dX,K.get];refine iy aE dy ⟨a,[],qv (a.dH.take i),1,a.dH[i].body⟩ ⟨⟨rfl,aX,m,dA,dA,dy,ae _ (aD k),al⟩,dA⟩ ?_;rintro _ Y ⟨⟨e,q,rfl⟩,L,A⟩;simp only at L A;have aA:=K.step L;simp;refine ee (λf=>?_) (λf=>?_)
  ·simp[A.ok.hp]
  ·simp[g,s,n,x];exact⟨by rw[X];exact A,aA⟩
 ·rintro d b ⟨r,p,g,s,n⟩;simp[p.get,g,n,r.ok.hp]
 ·have G:((hE.cons (dE 2 0 [a.t])).cons (dE 6 0 [.agg [sl (a.jt.map iC.t),sl (a.dH.map fO.t),Z 0,dD,dD,dD]])).get 1=some (dE 6 0 [.agg [sl (a.jt.map iC.t),sl (a.dH.map fO.t),Z 0,dD,dD,dD]]):=dy;have F:∀j,Fp ((hE.cons (dE 2 0 [a.t])).cons (dE 6 0 [.agg [sl (a.jt.map iC.t),sl (a.dH.map fO.t),Z 0,dD,dD,dD]])) 1 j->j=1:=λj h=>by
   rcases h with rfl|⟨z,y,v,I,h⟩
   ·rfl
   ·rw[G]at y;simp only[ar]at y;subst y;simp[fF,T.cells]at I;rcases I with rfl|rfl|rfl|rfl|rfl|rfl<;>simp at h
  simp[g];exact⟨⟨⟨dy,dy,dy⟩,λj h=>by rw[F j h];simp,0,0,_,_,_,[],[],G,Gr.nil _ _,Gr.nil _ _,Gr.nil _ _,dy,dy,dy⟩,dy,λh=>absurd (F 0 h) dB⟩
