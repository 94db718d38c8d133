/- W04b -/
import Derived.Test.YtmoiekepclmgbaaGreatDoorA19
set_option linter.all false
set_option maxRecDepth 100000
set_option maxHeartbeats 0
namespace Go.Proofs.YtmoiekepclmgbaaGreatDoor
noncomputable section
open Go Go.TI Tryz
attribute [-simp] List.map_take List.map_drop List.map_append fU fK fh Bool.not_or Bool.not_and
attribute [simp] fT fM
def YU(a:H)(j:Nat):Prop:=∃i d e f c g h,∃b:List ei,a.get j=some (dS 6 i [.agg [d,e,f,c,g,h]])/\Gr a c 11 (b.map ei.t)/\b.length<=1000000/\iE 0 a
def HT:mr:=⟨λd a=>∃b c e h,d=[.ptr b 0 0 0,G c,G e,.str h]/\YU a b,λ_ a g f=>f=a/\Kr g⟩
def SE:HT.Ok prog cx 229:=by
 refine Lr (tb:=⟨pt [],ht []⟩) jg iT (jr 70368744310543 [] func229) false (λ_ _=>1000005) (λP b N=>by obtain⟨g,y,e,J,rfl,_⟩:=N;simp[f229]) ?_;rintro _ b ⟨g,y,e,J,rfl,al,Q,R,S,z,T,U,h,s,n,hl,v⟩ d B;simp at B;obtain⟨f,i,j,k⟩:=B;have u:=H.fG s;simp[f229];refine gu h.length D (λo d c=>Fr b.size (hr b) c/\iE 0 c/\dT d 0 (.ptr g 0 0 0)/\dT d 1 (G y)/\dT d 2 (G e)/\dT d 3 (.str J)/\dT d 9 (G o)) ?_ ?_ D (by simp[f,i,j,k,Fr.refl,v.hr])
 ·rintro o d c E L ⟨a,w,f,i,j,k,m⟩;have p:=(a.get g u).trans ((iI b g).trans s);have l:Gr c z 11 (h.map ei.t):=n.mono λe q=>by have⟨_,_,_,_,x,_⟩:=n.box q;rw[a.get e (H.fG x),iI]
  have M:o<(h.map ei.t).length:=by simpa using E
  have⟨K,V,an,W,ap,Z,O,F,I⟩:=l.Bf (te:=Jb) rfl M;have X:=Nat.ne_of_lt (bF u a.size);simp at I;have ae:(K=c.size)=False:=by simp;have:=H.fG F;omega
  simp[f,i,j,k,m,p,l.len (cx:=cx),O,F,I,E,w.low];have A:=a.trans (Fr.cons (lo:=b.size) (by have:b.size<=c.size:=a.size;omega) (dS 11 1 [h[o].t]))
  repeat' (refine fw (λC=>?_) (λC=>?_)<;>simp[C,f,i,j,k,m,L,A,w.cons])
  exact sg b _ _ v.hp A (r:= .bool true) rfl ⟨rfl,Y⟩
 ·rintro d c ⟨a,w,f,i,j,k,m⟩;have p:=(a.get g u).trans ((iI b g).trans s);have l:Gr c z 11 (h.map ei.t):=n.mono λe q=>by have⟨_,_,_,_,x,_⟩:=n.box q;rw[a.get e (H.fG x),iI]
  simp[f,m,p,l.len (cx:=cx)];exact sg b _ _ v.hp a (r:= .bool false) rfl ⟨rfl,Y⟩
structure Wk(p:ik)(A:List ei)(n:Nat)(h:H)(w:Nat):Prop where
 ok:iE 0 h
 fp:∀b,Fp h w b->b<h.size
 ex:∃ver t av sv ev,∃S E:List (List Nat),h.get w=some (dS 6 ver [.agg [sl (p.jU.map iY.t),sl (p.dW.map iw.t),G t,av,sv,ev]])/\
  Gr h av 11 (A.map ei.t)/\Gr h sv 1 (S.map T.str)/\Gr h ev 1 (E.map T.str)/\S.length<=n/\E.length<=n/\∀b,eG sv=some b->eG ev≠some b
def Wk.ins{k:ik}{a:List ei}{j:Nat}{b:H}{d:Nat}(c:Wk k a j b d)(i:a.length<=1000000):YU b d:=by
 have⟨l,o,e,sv,f,n,m,g,h,_⟩:=c.ex;exact⟨l,_,_,_,e,sv,f,a,g,h,i,c.ok⟩
def vh{c:H}{d:Nat}{a:jv}(f:c.get d=some a){v:T}(g:v∈gH a.fR){b:Nat}(e:eG v=some b):Fp c d b:= .inr ⟨a,f,v,g,e⟩
def Wk.same{m:ik}{h:List ei}{l k:Nat}{c d:H}{g:Nat}(j:Wk m h l c g)(B:l<=k)(w:iE 0 d)(f:∀a,Fp c g a->d.get a=c.get a)(v:c.size<=d.size):Wk m h k d g:=by
 have⟨y,x,p,sv,q,o,n,e,r,s,t,z,A,u⟩:=j.ex;have i:=f g (.inl rfl);refine⟨w,λa b=>by rw[jt i]at b;exact bF (j.fp a b) v,y,x,p,sv,q,o,n,by rw[i];exact e,?_,?_,?_,D,D,u⟩
 ·exact r.mono λa b=>f a (vh e (by simp[gH,T.cells]) b)
 ·exact s.mono λa b=>f a (vh e (by simp[gH,T.cells]) b)
 ·exact t.mono λa b=>f a (vh e (by simp[gH,T.cells]) b)
def Wk.lt{f:ik}{c:List ei}{e:Nat}{b:H}{a:Nat}(d:Wk f c e b a):a<b.size:=d.fp a (.inl rfl)
theorem Wk.cons{e:ik}{b:List ei}{d:Nat}{c:H}{w:Nat}(a:Wk e b d c w)(f:jv):Wk e b d (c.cons f) w:=
 a.same (au _) (a.ok.cons f) (λg h=>by rw[ez,ao (by have:=a.fp g h;omega)]) Y 
def Wk.hr{e:ik}{b:List ei}{d:Nat}{a:H}{f:Nat}(c:Wk e b d a f):Wk e b d (TI.hr a) f:=c.same (au _) c.ok.hr (λg _=>iI a g) (au _)
def Wk.out{e:ik}{b:List ei}{d m:Nat}{h a:H}{f:Nat}(c:Wk e b d a f)(i:d<=m):Wk e b m (mK h a) f:=c.same i (c.ok.out h) (λg _=>il h a g) (au _)
def Wk.spawn{a:ik}{m:List ei}{k d h:Nat}{c f:H}{g:Int}{e sv b l:T}{j n:List (List Nat)}{w:List Nat}(u:Wk a m k c d)(o:c.get d=some (dS 6 h [.agg [sl (a.jU.map iY.t),sl (a.dW.map iw.t),G g,e,sv,b]]))
 (gA:Gr c e 11 (m.map ei.t)) (s:Gr c sv 1 (j.map T.str)) (C:Gr c b 1 (n.map T.str)) (I:j.length<=k) (J:n.length<=k) (B:∀r,eG sv=some r->eG b≠some r) (E:Dt c sv 1 (j.map T.str++[.str w]) l f):
 f.get d=some (dS 6 h [.agg [sl (a.jU.map iY.t),sl (a.dW.map iw.t),G g,e,sv,b]])/\fQ c f d=true/\
  Step d c (fg f d (dS 6 (h+1) [.agg [sl (a.jU.map iY.t),sl (a.dW.map iw.t),G g,e,l,b]]))/\
  Wk a m (k+1) (fg f d (dS 6 (h+1) [.agg [sl (a.jU.map iY.t),sl (a.dW.map iw.t),G g,e,l,b]])) d:=by
 have⟨p,F⟩:=yJ (i:=4) u.ok u.fp o rfl dP s E.xt;have⟨q,z,A,v⟩:=F _ rfl;have⟨a1,a2⟩:=v e 11 _ Y gA (s.ne gA dP) dP;have⟨x,y⟩:=v b 1 _ Y C B dP;exact⟨p.trans o,fZ p,q,⟨q.ok.hp,q.ok.low,aw _⟩,z,h+1,g,e,l,b,j++[w],n,by rw[ee (p.trans o),aq rfl],a1,by rw[List.map_append];exact A,x,dN,D,y⟩
def Wk.set{a:ik}{o:List ei}{m c k:Nat}{b h:H}{j:Int}{d sv g n:T}{p l:List (List Nat)}{x:List Nat}(f:Wk a o m b c)(q:b.get c=some (dS 6 k [.agg [sl (a.jU.map iY.t),sl (a.dW.map iw.t),G j,d,sv,g]]))
 (gA:Gr b d 11 (o.map ei.t)) (E:Gr b sv 1 (p.map T.str)) (v:Gr b g 1 (l.map T.str)) (J:p.length<=m) (K:l.length<=m) (C:∀e,eG sv=some e->eG g≠some e) (F:Dt b g 1 (l.map T.str++[.str x]) n h):
 h.get c=some (dS 6 k [.agg [sl (a.jU.map iY.t),sl (a.dW.map iw.t),G j,d,sv,g]])/\fQ b h c=true/\
  Step c b (fg h c (dS 6 (k+1) [.agg [sl (a.jU.map iY.t),sl (a.dW.map iw.t),G j,d,sv,n]]))/\
  Wk a o (m+1) (fg h c (dS 6 (k+1) [.agg [sl (a.jU.map iY.t),sl (a.dW.map iw.t),G j,d,sv,n]])) c:=by
 have⟨s,I⟩:=yJ (i:=5) f.ok f.fp q rfl dP v F.xt;have⟨u,A,B,w⟩:=I _ rfl;have⟨a1,a2⟩:=w d 11 _ Y gA (v.ne gA dP) dP;have⟨y,z⟩:=w sv 1 _ Y E (λe r f=>C e f r) dP;exact⟨s.trans q,fZ s,u,⟨u.ok.hp,u.ok.low,aw _⟩,A,k+1,j,d,sv,n,p,l++[x],by rw[ee (s.trans q),aq rfl],a1,y,by rw[List.map_append];exact B,D,dN,λe r f=>z e f r⟩
def Wk.aa7{a:ik}{h:List ei}{k d g:Nat}{c e:H}{f:Int}{j sv b l:T}{n m:List (List Nat)}{x:ei}(v:Wk a h k c d)(o:c.get d=some (dS 6 g [.agg [sl (a.jU.map iY.t),sl (a.dW.map iw.t),G f,j,sv,b]]))
 (gA:Gr c j 11 (h.map ei.t)) (u:Gr c sv 1 (n.map T.str)) (s:Gr c b 1 (m.map T.str)) (B:n.length<=k) (C:m.length<=k) (E:∀r,eG sv=some r->eG b≠some r) (F:Dt c j 11 (h.map ei.t++[x.t]) l e):
 e.get d=some (dS 6 g [.agg [sl (a.jU.map iY.t),sl (a.dW.map iw.t),G f,j,sv,b]])/\fQ c e d=true/\
  Step d c (fg e d (dS 6 (g+1) [.agg [sl (a.jU.map iY.t),sl (a.dW.map iw.t),G f,l,sv,b]]))/\
  Wk a (h++[x]) k (fg e d (dS 6 (g+1) [.agg [sl (a.jU.map iY.t),sl (a.dW.map iw.t),G f,l,sv,b]])) d:=by
 have⟨p,I⟩:=yJ (i:=3) v.ok v.fp o rfl dP gA F.xt;have⟨q,z,A,w⟩:=I _ rfl;have⟨a1,a2⟩:=w sv 1 _ Y u (gA.ne u dP) dP;have⟨y,J⟩:=w b 1 _ Y s (gA.ne s dP) dP;exact⟨p.trans o,fZ p,q,⟨q.ok.hp,q.ok.low,aw _⟩,z,g+1,f,l,sv,b,n,m,by rw[ee (p.trans o),aq rfl],by rw[List.map_append];exact A,a1,y,B,C,E⟩
def Wk.back{b:ik}{p:List ei}{o i k:Nat}{d:H}{j:Int}{m sv f h:T}{r q:List (List Nat)}{J:ei}(g:Wk b (p++[J]) o d i)(c:d.get i=some (dS 6 k [.agg [sl (b.jU.map iY.t),sl (b.dW.map iw.t),G j,m,sv,f]]))
 (F:Gr d sv 1 (r.map T.str)) (E:Gr d f 1 (q.map T.str)) (A:r.length<=o) (B:q.length<=o) (C:∀e,eG sv=some e->eG f≠some e) (gA:Gr d h 11 (p.map ei.t)) (n:eG h=eG m):
   Step i d (fg d i (dS 6 (k+1) [.agg [sl (b.jU.map iY.t),sl (b.dW.map iw.t),G j,h,sv,f]]))/\
   Wk b p o (fg d i (dS 6 (k+1) [.agg [sl (b.jU.map iY.t),sl (b.dW.map iw.t),G j,h,sv,f]])) i:=by
 have w:=Step.put g.ok c (dS 6 (k+1) [.agg [sl (b.jU.map iY.t),sl (b.dW.map iw.t),G j,h,sv,f]]) (λv l e a=>by
  simp[gH,T.cells]at l;rcases l with rfl|rfl|rfl|rfl|rfl|rfl
  ·simp at a
  ·simp at a
  ·simp at a
  ·exact .inl (vh c (v:=m) (by simp[gH,T.cells]) (by rw[<-n];exact a))
  ·exact .inl (vh c (v:=v) (by simp[gH,T.cells]) a)
  ·exact .inl (vh c (v:=v) (by simp[gH,T.cells]) a))
 have u:∀{v:T} {x:Nat} {y:List T},Gr d v x y->x≠6->Gr (fg d i (dS 6 (k+1) [.agg [sl (b.jU.map iY.t),sl (b.dW.map iw.t),G j,h,sv,f]])) v x y:=λz I=>z.mono λe n=>by
  have⟨_,_,_,_,a,_⟩:=z.box n;rw[ee c,ao (λg=>by subst g;rw[c]at a;simp at a;exact I a.1.symm)]
 refine⟨w,⟨w.ok.hp,w.ok.low,aw _⟩,λe a=>?_,k+1,j,h,sv,f,r,q,by rw[ee c,aq rfl],u gA dP,u F dP,u E dP,A,B,C⟩;rw[ig];rcases a with rfl|⟨K,s,v,l,a⟩
 ·exact g.lt
 rw[ee c,aq rfl]at s;simp only[ar]at s;subst s;simp[gH,T.cells]at l;rcases l with rfl|rfl|rfl|rfl|rfl|rfl
 ·simp at a
 ·simp at a
 ·simp at a
 ·exact g.fp e (vh c (v:=m) (by simp[gH,T.cells]) (by rw[<-n];exact a))
 ·exact g.fp e (vh c (v:=v) (by simp[gH,T.cells]) a)
 ·exact g.fp e (vh c (v:=v) (by simp[gH,T.cells]) a)
def Wk.eg{b:ik}{n:List ei}{m h k:Nat}{d:H}{J:Int}{f sv e:T}{p o:List (List Nat)}(l:Wk b n m d h)(g:d.get h=some (dS 6 k [.agg [sl (b.jU.map iY.t),sl (b.dW.map iw.t),G J,f,sv,e]]))
 (gA:Gr d f 11 (n.map ei.t)) (E:Gr d sv 1 (p.map T.str)) (C:Gr d e 1 (o.map T.str)) (z:p.length<=m) (A:o.length<=m) (B:∀c,eG sv=some c->eG e≠some c) (j:Int):
   Step h d (fg d h (dS 6 (k+1) [.agg [sl (b.jU.map iY.t),sl (b.dW.map iw.t),G j,f,sv,e]]))/\
   Wk b n m (fg d h (dS 6 (k+1) [.agg [sl (b.jU.map iY.t),sl (b.dW.map iw.t),G j,f,sv,e]])) h:=by
 have y:∀v∈ [sl (b.jU.map iY.t),sl (b.dW.map iw.t),G j,f,sv,e],∀c,eG v=some c->Fp d h c:=λv i c a=>by
  simp at i;rcases i with rfl|rfl|rfl|rfl|rfl|rfl
  ·simp at a
  ·simp at a
  ·simp at a
  ·exact vh g (v:=v) (by simp[gH,T.cells]) a
  ·exact vh g (v:=v) (by simp[gH,T.cells]) a
  ·exact vh g (v:=v) (by simp[gH,T.cells]) a
 have s:=Step.put l.ok g (dS 6 (k+1) [.agg [sl (b.jU.map iY.t),sl (b.dW.map iw.t),G j,f,sv,e]]) (λv i c a=> .inl (y v (by simpa[gH,T.cells]using i) c a));have r:∀{v:T} {u:Nat} {w:List T},Gr d v u w->u≠6->Gr (fg d h (dS 6 (k+1) [.agg [sl (b.jU.map iY.t),sl (b.dW.map iw.t),G j,f,sv,e]])) v u w:=λx I=>x.mono λc F=>by
  have⟨_,_,_,_,a,_⟩:=x.box F;rw[ee g,ao (λl=>by subst l;rw[g]at a;simp at a;exact I a.1.symm)]
 refine⟨s,⟨s.ok.hp,s.ok.low,aw _⟩,λc a=>?_,k+1,j,f,sv,e,p,o,by rw[ee g,aq rfl],r gA dP,r E dP,r C dP,z,A,B⟩;rw[ig];rcases a with rfl|⟨K,q,v,i,a⟩
 ·exact l.lt
 rw[ee g,aq rfl]at q;simp only[ar]at q;subst q;exact l.fp c (y v (by simpa[gH,T.cells]using i) c a)
structure abf where
 (p:ik) (A:List ei) (n w:Nat) (s:ei)
def Zy(a:abf)(c:List T)(d:H):Prop:=c=[.ptr a.w 0 0 0,a.s.t]/\Wk a.p a.A a.n d a.w/\Vn a.p/\a.n<=10000000/\a.s.w<=1000000/\a.A.length<=1000000/\
 (9<=a.s.op/\a.s.op<=11->∃b,b<a.p.jU.length/\uC (a.p.jU.map iY.name) a.s.name 0=b)
def NG(a:abf)(e:List T)(c:H)(d:T)(b:H):Prop:=Hm d/\Step a.w c b/\Wk a.p a.A (a.n+1) b a.w
noncomputable abbrev ads:mr:=jY abf Zy NG
def adM:ads.Ok prog cx 197:=by
 obtain⟨M,c6⟩:=hlB SE (λ_ _ _ _ o=>o);refine jV (tb:=⟨pt [(231,B5.jX),(232,EK.jX),(230,ZM.jX),(233,G7.jX),(124,Es),(195,pz),(196,mY)],ht [(229,HT)]⟩) jg iT (jr 14474012017383023515249485065460760621927424225494418519668988771800801378299 [(1,[(7,9)]),(8,[(4,5),(4,8)]),(9,[(4,5),(4,8),(4,9),(4,10),(4,12),(11,12),(4,15),(11,15)]),(28,[(2,7)]),(49,[(4,5),(4,8)])] func197) (λ_ _=>5) (λi l h de=>by obtain⟨rfl,_⟩:=de;simp[f197]) ?_;rintro⟨d,A,n,f,a⟩ _ h ⟨rfl,k,y,dd,di,bu,bC⟩ ey bA;simp only at k y dd di bu bC;simp at bA;obtain⟨H,c4⟩:=bA;have s:=(k.hr.cons (dS 11 0 [a.t])).cons (dS 2 1 [d.t]);have J:Step f h (mK h (((hr h).cons (dS 11 0 [a.t])).cons (dS 2 1 [d.t]))):=
  ((Step.cons k.ok.hr k.lt _).trans (Step.cons (k.hr.cons _).ok (k.hr.cons _).lt _)).out
 have ds:Step f (hr h) (((hr h).cons (dS 11 0 [a.t])).cons (dS 2 1 [d.t])):=(Step.cons k.ok.hr k.lt _).trans (Step.cons (k.hr.cons _).ok (k.hr.cons _).lt _);have K:=s.out (h:=h) (m:=n+1) D;have O:∀o:Int,9<=o/\o<=11->decide (a.op=o)=true->∃m:Nat,m<d.jU.length/\uC (d.jU.map iY.name) a.name 0=m:=λo eh P=>bC (by simp at P;omega);have al:=λ{tb:gG} (ht:tb.h 229=some HT) l b z=>c6 ht [.ptr f 0 0 0,G l,G b,.str z] _ ⟨f,l,b,z,rfl,s.ins bu⟩;have eo:=k.lt;have bH:(f=h.size)=False:=dN;have bN:(f=h.size+1)=False:=dN;have cX:(((hr h).cons (dS 11 0 [a.t])).cons (dS 2 1 [d.t])).get f=h.get f:=by simp[bH,bN]
 obtain⟨eu,z,bX,sv,cp,S,E,w,gA,bs,bp,a7,a8,bi⟩:=s.ex;have a6:=cX.symm.trans w;have cL:=bs.qC Y;have cF:=bp.qC Y;have ca:=λ{tb:gG} (h:tb.p 124=some Es) x=>QU h S x D;have b9:=λ{tb:gG} (h:tb.p 124=some Es) x=>QU h E x D;obtain⟨Nw,V⟩:=B5.fnI (λc:List Nat×Int×Int=>(d,z,c)) (λ_=>y);have V:=λ{tb:gG} (ht:tb.p 231=some B5.jX) x l b=>V ht (x,l,b);obtain⟨ea,aN⟩:=G7.fnI (λb:Bool=>b) (λ_=>trivial);have U:∀{tb:gG},tb.p 230=some ZM.jX->∀l b,rl prog cx tb 230 [G l,G b]=some (G (if l=0 then b else l)):=λht l b=>by
  obtain⟨_,rfl,P⟩:=ZM.use (l,b) trivial;exact P ht
 have dk:=a.mR;obtain⟨_,⟨er,rfl⟩,R⟩:=EK.use (d,z,a.e) ⟨y,dO⟩;have eT:=λ{tb:gG} (h:tb.p 196=some mY) x=>yS h d.dW x (by have:=y.2.1;omega);have b8:=λ{tb:gG} (h:tb.p 195=some pz) x=>DQ h d.jU x (by have:=y.1;omega);simp[f197,H,c4,a6,bH,bN,al];have u:(((hr h).cons (dS 11 0 [a.t])).cons (dS 2 1 [d.t])).get h.size=some (dS 11 0 [a.t]):=Y;have N:(((hr h).cons (dS 11 0 [a.t])).cons (dS 2 1 [d.t])).get (h.size+1)=some (dS 2 1 [d.t]):=Y;have I:(((hr h).cons (dS 11 0 [a.t])).cons (dS 2 1 [d.t])).size=h.size+2:=Y;generalize(((hr h).cons (dS 11 0 [a.t])).cons (dS 2 1 [d.t]))=j at*
 generalize M [T.ptr f 0 0 0,T.int IntKind.i64 7,T.int IntKind.i64 7,T.str []] j=eb;generalize M [T.ptr f 0 0 0,T.int IntKind.i64 8,T.int IntKind.i64 8,T.str []] j=ec;generalize M [T.ptr f 0 0 0,T.int IntKind.i64 3,T.int IntKind.i64 3,T.str []] j=ef;have W:=(show(j.cons (dS 1 0 [.str a.name])).get f=j.get f from by rw[ez,ao D]).trans w;have L:=s.cons (dS 1 0 [.str a.name]);have bT:=ds.trans (Step.cons s.ok s.lt (dS 1 0 [.str a.name]));have ae:∀{v:T} {bW:Nat} {aX:List T},v=bX\/v=sv\/v=cp->Gr j v bW aX->Gr (j.cons (dS 1 0 [.str a.name])) v bW aX:=λdm g=>g.mono λb bB=>by
  have:b<j.size:=s.fp b (vh w (v:=_) (by rcases dm with rfl|rfl|rfl<;>simp[gH,T.cells]) bB);rw[ez,ao D]
 have Z:=ae Y bs;have X:=ae Y bp;have bn:=ae Y gA
 repeat' (refine fw (λq=>?_) (λq=>?_)<;>simp[q,H,w,u,N,al,V,aN,U,R,eT,b8,NG,J,K])
 ·cases an:a.index with
  |nil=>rename_i q;simp[an]at q
  |cons x r=>
   obtain⟨_,⟨et,rfl⟩,cb⟩:=EK.use (d,z,x) ⟨y,by simp only;rw[an,eY.kL]at dk;omega⟩;simp[u,N,U,R,J,K,an,cb]
 iterate 3
  ·obtain⟨m,c7,c9⟩:∃m,m<d.jU.length/\uC (d.jU.map iY.name) a.name 0=m:=by first|exact O 9 D (by assumption)|exact O 10 D (by assumption)|exact O 11 D (by assumption)
   simp[u,al,aN,J,K,c7,c9]
 ·simp[cL,ca];refine fw (λq=>?_) (λq=>?_)
  ·simp[J,K]
  obtain⟨dv,c1,Q,B⟩:=Z.app (cx:=cx) L.ok (x:= .arr (h.size+2) 0 0 1 false) (xs:=[.str a.name]) sO rfl yq sO rfl rfl Y (by rw[iF];simp[I]) (by simp[T.cells]) Y dN;obtain⟨ap,dn,F,av⟩:=L.spawn W bn Z X a7 a8 bi B;have C:=B.gr;have aA:=(bT.trans F).out;have aE:=av.out (h:=h) (au _);simp[H,w,u,I,Q,ap,C.iN,C.cells,eZ,aA,aE]
 ·obtain⟨dv,c1,Q,B⟩:=X.app (cx:=cx) L.ok (x:= .arr (h.size+2) 0 0 1 false) (xs:=[.str a.name]) sO rfl yq sO rfl rfl Y (by rw[iF];simp[I]) (by simp[T.cells]) Y dN;obtain⟨ap,dn,F,av⟩:=L.set W bn Z X a7 a8 bi B;have C:=B.gr;have aA:=(bT.trans F).out;have aE:=av.out (h:=h) (au _);have bS:∀b,h.size<=b->¬Fp (j.cons (dS 1 0 [.str a.name])) f b:=λb bB o=>by rw[jt (W.trans a6.symm)]at o;have:=k.fp b o;omega
  have b6:=(F.get h.size dN (bS _ (au _))).trans ((show(j.cons (dS 1 0 [.str a.name])).get h.size=j.get h.size by rw[ez,ao D]).trans u);have b7:=(F.get (h.size+1) dN (bS _ D)).trans ((show(j.cons (dS 1 0 [.str a.name])).get (h.size+1)=j.get (h.size+1)by rw[ez,ao D]).trans N);simp[cF,b9];refine fw (λq=>?_) (λq=>?_)<;>simp[H,w,u,I,Q,ap,C.iN,C.cells,eZ,aA,aE,b6,b7,R,U]
structure Nl where
 (p:ik) (A:List ei) (n w:Nat) (l:List ei)
def HX(a:Nl)(c:List T)(d:H):Prop:=c=[.ptr a.w 0 0 0,sl (a.l.map ei.t)]/\Wk a.p a.A a.n d a.w/\Vn a.p/\a.n+ei.ws a.l<=10000000/\ei.ws a.l<=1000000/\a.A.length<=6/\(∀e∈a.l,MS e)/\
 ∃b,b<a.p.jU.length/\uC (a.p.jU.map iY.name) [99] 0=b
def AW(a:Nl)(e:List T)(c:H)(d:T)(b:H):Prop:=Kq d/\Step a.w c b/\Wk a.p a.A (a.n+ei.ws a.l) b a.w
def UC(A:Nat)(bS:(jY Nl (λf a m=>HX f a m/\ei.ws f.l<A) AW).Ok prog cx 155):(jY Nl (λf a m=>HX f a m/\ei.ws f.l<A+1) AW).Ok prog cx 155:=by
 refine jV (tb:=⟨pt [],ht [(197,ads),(155,jY Nl (λf a m=>HX f a m/\ei.ws f.l<A) AW)]⟩) jg iT (jr 151115745466229840684019 [(10,[(8,12),(9,12)])] func155) (λ_ _=>1000005) (λf a m dn=>by obtain⟨⟨rfl,_⟩,_⟩:=dn;simp[f155]) ?_;rintro⟨K,c,n,j,l⟩ _ m ⟨⟨rfl,a8,Q,dm,ea,de,bA,P⟩,dk⟩ B bB;simp only at a8 Q dm ea de bA P dk;simp at bB;obtain⟨i,w⟩:=bB;have hl:=ei.wW (l:=l);simp[f155];refine gu l.length D (λA B H=>Step j (hr m) H/\Wk K c (n+ei.ws (l.take A)) H j/\dT B 0 (.ptr j 0 0 0)/\dT B 1 (sl (l.map ei.t))/\dT B 6 (G A)) ?_ ?_ D (by simp[i,w,ei.jE,a8.hr,Step.refl a8.ok.hr])
 ·rintro f B H aE bC ⟨aX,s,i,w,I⟩;have bN:=ei.HL l aE;have eH:=ei.zL l (f+1);have aN:=bA l[f] (aC aE);simp[i,w,I,aE,s.ok.low];generalize l[f]=d at*
  have eF:=d.mR;refine jm adM Y ⟨K,c,n+ei.ws (l.take f),j,d⟩ ⟨rfl,s.cons _,Q,dO,dO,dO,λq=>by simp only;rw[aN.cond q];exact P⟩ ?_;rintro _ p ⟨⟨e,rfl⟩,a6,k⟩;simp only at a6 k;have J:=(Lb.new s.lt s.fp (dS 11 1 [d.t])).step a6;have b6:=(aX.trans (Step.cons s.ok s.lt _)).trans a6;have⟨eO,eN,cb,sv,cF,S,E,M,gA,c9,c7,c1,c4,c6⟩:=k.ex;have bu:∀r,Kq r->AW ⟨K,c,n,j,l⟩ [.ptr j 0 0 0,sl (l.map ei.t)] m r (mK m p):=λr hr=>⟨hr,b6.out,k.out dO⟩;have ap:=iZ (a:=(c.length:Int)) (b:=1) D D;simp[i,M,gA.len (cx:=cx),ap];refine fw (λo=>?_) (λo=>?_)
  ·simp[J.get];exact bu _ Y
  have eD:c.length<=5:=by simp at o;omega
  simp;refine fw (λo=>?_) (λo=>?_)
  ·simp[J.get];exact bu _ Y
  have eI:(j=p.size)=False:=by simp;have:=k.lt;omega
  have eC:(H.size=p.size)=False:=by simp;have:=J.lt;omega
  have b8:=k.cons (dS 11 0 [.agg [G 0,G 0,.str [],.str [],dR,G 0,G 0,.str [],dR,dR,dR]]);have ec:=b6.trans (Step.cons k.ok k.lt (dS 11 0 [.agg [G 0,G 0,.str [],.str [],dR,G 0,G 0,.str [],dR,dR,dR]]));have cX:=(show(p.cons (dS 11 0 [.agg [G 0,G 0,.str [],.str [],dR,G 0,G 0,.str [],dR,dR,dR]])).get j=p.get j by rw[ez,ao (by have:=k.lt;omega)]).trans M;have N:∀{v:T} {b7:Nat} {bs:List T},v=cb\/v=sv\/v=cF->Gr p v b7 bs->Gr (p.cons (dS 11 0 [.agg [G 0,G 0,.str [],.str [],dR,G 0,G 0,.str [],dR,dR,dR]])) v b7 bs:=λdv g=>g.mono λb ap=>by
   have:b<p.size:=k.fp b (vh M (v:=_) (by rcases dv with rfl|rfl|rfl<;>simp[gH,T.cells]) ap);rw[ez,ao D]
  have⟨U,eB,bp,bn⟩:=(N Y gA).app (cx:=cx) b8.ok (x:= .arr p.size 0 0 1 false) (xs:=[.agg [G 0,G 0,.str [],.str [],dR,G 0,G 0,.str [],dR,dR,dR]]) Bt rfl Br Bt rfl rfl Y (by rw[iF];simp) (by simp[T.cells]) Y dN;obtain⟨b,ey,eP,eA,rfl,O,eE⟩:=id bn;have a2:=bn.set O c.length d.t;have ds:(List.map ei.t c++[T.agg [G 0,G 0,.str [],.str [],dR,G 0,G 0,.str [],dR,dR,dR]]).set c.length d.t=List.map ei.t c++[d.t]:=Y;rw[ds]at a2;simp only[aT,aG,aP,cQ]at a2 bp;have⟨R,eM,bW,eb⟩:=b8.aa7 cX (N Y gA) (N Y c9) (N Y c7) c1 c4 c6 a2;have bH:b≠j:=λq=>by subst q;rw[ee O,aq rfl]at R;simp at R
  have bT:=(J.step (Step.cons k.ok k.lt _)).step bW;simp[i,M,J.get,gA.len (cx:=cx),bp,O,eZ,R,CG R _ bH,CG O _ (br bH),bT.get];refine jm bS Y ⟨K,c++[d],n+ei.ws (l.take f)+1,j,d.body⟩ ⟨⟨rfl,eb,Q,dO,dO,dN,aN.bd,P⟩,dO⟩ ?_;rintro _ dd ⟨⟨et,eK,rfl⟩,a7,bi⟩;simp only at a7 bi;have ef:=ec.trans bW;have l4:=bT.step a7;have Jg:=ef.trans a7;simp;refine fw (λo=>?_) (λo=>?_)
  ·simp[i,l4.get];refine jm bS Y ⟨K,c++[d],n+ei.ws (l.take f)+1+ei.ws d.body,j,d.Qu⟩ ⟨⟨rfl,bi,Q,dO,dO,dN,aN.el,P⟩,dO⟩ ?_;rintro _ an ⟨⟨eu,eL,rfl⟩,bX,C⟩;simp only at bX C;replace Jg:=Jg.trans bX;simp[i];have⟨er,eo,cp,eh,cL,ca,b9,u,F,al,ae,W,X,Z⟩:=C.ex;have⟨U,V,h,av⟩:=F.cut (cx:=cx) (ty:=Jc) (te:=Jb) rfl Br rfl (n:=c.length) Y Y;have h:Gr an U 11 (c.map ei.t):=by rw[List.map_append,dj Y]at h;rwa[bL Y]at h
   have⟨L,z⟩:=C.back u al ae W X Z h av;have di:(c++[d]).length=c.length+1:=Y;have y:=lJ (a:=((c++[d]).length:Int)) (b:=1) D D;have aA:((c++[d]).length:Int)-1=(c.length:Int):=Y;rw[aA]at y;simp[i,u,F.len (cx:=cx)];simp at y;simp[y,V,h.iN,h.cells,eZ,u];refine fw (λo=>?_) (λo=>?_)
   ·simp;exact⟨Y,(Jg.trans L).out,z.out dO⟩
   ·simp[i,w,I,bC];exact⟨Jg.trans L,by rw[bN];exact z.same D z.ok (λ_ _=>rfl) (au _)⟩
  ·have C:=bi;generalize dd=an at*
   simp[i];have⟨er,eo,cp,eh,cL,ca,b9,u,F,al,ae,W,X,Z⟩:=C.ex;have⟨U,V,h,av⟩:=F.cut (cx:=cx) (ty:=Jc) (te:=Jb) rfl Br rfl (n:=c.length) Y Y;have h:Gr an U 11 (c.map ei.t):=by rw[List.map_append,dj Y]at h;rwa[bL Y]at h
   have⟨L,z⟩:=C.back u al ae W X Z h av;have di:(c++[d]).length=c.length+1:=Y;have y:=lJ (a:=((c++[d]).length:Int)) (b:=1) D D;have aA:((c++[d]).length:Int)-1=(c.length:Int):=Y;rw[aA]at y;simp[i,u,F.len (cx:=cx)];simp at y;simp[y,V,h.iN,h.cells,eZ,u];refine fw (λo=>?_) (λo=>?_)
   ·simp;exact⟨Y,(Jg.trans L).out,z.out dO⟩
   ·simp[i,w,I,bC];exact⟨Jg.trans L,by rw[bN];exact z.same D z.ok (λ_ _=>rfl) (au _)⟩
 ·rintro B H ⟨aX,s,i,w,I⟩;rw[aI]at s;simp[w,I];exact⟨Y,aX.out,s.out (au _)⟩
def G9:o9 prog cx 152 (λa:List iY=>[sl (a.map iY.t)]) (λa=>a.length<=1000000) (λ_=>Kq):=by
 refine jL [(195,pz)] (jr 1242795222330225588904675325 [] func152) (λJ=>1000005) (λB C c=>jH (λ_ _=>iY.inj) (by simpa using c)) ?_;rintro a hl b r;simp at r;simp[f152];refine gu a.length D (λx b c=>iE 0 c/\dT b 0 (sl (a.map iY.t))/\(∃d,dT b 4 (G d))/\(∃d,dT b 5 (G d))/\(∃d,dT b 6 (G d))/\(∃d,dT b 7 (G d))/\dT b 8 (G x)) ?_ ?_ D (by simp[r];exact⟨Y,Y,Y⟩)
 ·rintro i b c j s ⟨e,f,⟨E,m⟩,⟨F,n⟩,⟨H,o⟩,⟨I,q⟩,g⟩;have l:=λ{z:gG} (c:z.p 195=some pz) A=>DQ c (a.take i) A (by rw[List.length_take];omega);simp[f,g,j,e.low,l,bD j];rcases IX ((a.take i).map iY.name) a[i].on 0 with k|⟨y,v,k⟩
  ·generalize a[i]=u at*
   repeat' (refine fw (λh=>?_) (λh=>?_)<;>simp[h,f,m,n,o,q,g,e.hp,e.cons,l,bD j,pP,s,k])
  ·simp at v k;have w:y<a.length:=D;generalize a[i]=u at*
   repeat' (refine fw (λh=>?_) (λh=>?_)<;>simp[h,f,m,n,o,q,g,e.hp,e.cons,l,bD j,pP,s,k,w])
 ·rintro b c ⟨e,f,_,_,_,_,g⟩;simp[f,g,e.hp]
def JI(a:ik):Prop:=Vn a/\(a.dW.map λb=>ei.ws b.body).sum<=1000000/\(∀b∈a.dW,∀d∈b.body,MS d)/\∃c,c<a.jU.length/\uC (a.jU.map iY.name) [99] 0=c
def rO(a:List iw):Nat:=(a.map λb=>ei.ws b.body).sum
def kG:o9 prog cx 109 (λa:ik=>[a.t]) JI (λ_=>Kq):=by
 have aN:=yW (λi:Nl=>ei.ws i.l) UC 1000001;refine AA (tb:=⟨pt [(151,JH.jX),(152,G9.jX),(153,CQ.jX),(154,NO.jX)],ht [(155,jY Nl (λi B b=>HX i B b/\ei.ws i.l<1000001) AW)]⟩) jg iT (jr 19342850151455133005856767 [] func109) (λa=>1000005) (λB j b=>by simp at b;exact ik.inj b) Y nl9 ?_;rintro a ⟨m,aA,al,an⟩ d F;simp at F;obtain⟨_,⟨a8,rfl⟩,N⟩:=JH.use a m;obtain⟨_,⟨bu,bB,rfl⟩,O⟩:=G9.use a.jU m.1;obtain⟨_,⟨bA,bC,rfl⟩,P⟩:=CQ.use a m;have hl:=m.2.1;simp[f109,F,N];refine fw (λf=>?_) (λf=>?_)
 ·simp
 simp[O];refine fw (λf=>?_) (λf=>?_)
 ·simp
 simp;refine fw (λf=>?_) (λf=>?_)
 ·simp
 simp[P];refine fw (λf=>?_) (λf=>?_)
 ·simp
 simp;refine gu a.dW.length D (λo d b=>b=hE.cons (dS 2 0 [a.t])/\dT d 1 (.ptr 0 0 0 0)/\(∃q,dT d 8 (G q))/\dT d 9 (G o)) ?_ ?_ D Y
 ·rintro i d b k x ⟨rfl,g,⟨q,u⟩,w⟩;obtain⟨_,⟨c,rfl⟩,Q⟩:=NO.use a.dW[i].body (by have:=(m.2.2 _ (aC k)).2;omega);simp[g,u,w,k,Q,pP,x]
 rintro d b ⟨rfl,g,⟨q,u⟩,w⟩;simp[g,u,w];refine fw (λf=>?_) (λf=>?_)
 ·simp
 simp[g];have av:∀{i:Nat} (J:i<a.dW.length),rO (a.dW.take (i+1))=rO (a.dW.take i)+ei.ws a.dW[i].body:=λ{i} J=>by
  unfold rO;rw[aM J,List.map_append,List.sum_append];simp
 have ap:∀i,rO (a.dW.take i)<=1000000:=λi=>by
  have:rO a.dW<=1000000:=aA;have ae:rO a.dW=rO (a.dW.take i)+rO (a.dW.drop i):=by unfold rO;rw[<-List.sum_append,<-List.map_append,cS]
  omega
 refine gu a.dW.length D (λo d b=>Wk a [] (rO (a.dW.take o)) b 1/\Lb 1 b 0 (dS 2 0 [a.t])/\dT d 1 (.ptr 0 0 0 0)/\dT d 10 (.ptr 1 0 0 0)/\dT d 11 (G o)) ?_ ?_ D ?_
 ·rintro i d b k x ⟨r,p,g,s,n⟩;have Z:=av k;have bn:=ap (i+1);have⟨bs,bp,a7,sv,bi,S,E,C,gA,X,W,R,U,V⟩:=r.ex;have⟨aX,a6⟩:=r.eg C gA X W R U V i;have L:=p.step aX;simp[p.get,g,s,n,k,C,eZ,L.get];refine jm aN Y ⟨a,[],rO (a.dW.take i),1,a.dW[i].body⟩ ⟨⟨rfl,a6,m,dO,dO,Y,al _ (aC k),an⟩,dO⟩ ?_;rintro _ ae ⟨⟨e,q,rfl⟩,M,A⟩;simp only at M A;have aE:=L.step M;simp;refine fw (λf=>?_) (λf=>?_)
  ·simp[A.ok.hp]
  ·simp[g,s,n,x];exact⟨by rw[Z];exact A,aE⟩
 ·rintro d b ⟨r,p,g,s,n⟩;simp[p.get,g,n,r.ok.hp]
 ·have I:((hE.cons (dS 2 0 [a.t])).cons (dS 6 0 [.agg [sl (a.jU.map iY.t),sl (a.dW.map iw.t),G 0,dR,dR,dR]])).get 1=some (dS 6 0 [.agg [sl (a.jU.map iY.t),sl (a.dW.map iw.t),G 0,dR,dR,dR]]):=Y;have H:∀j,Fp ((hE.cons (dS 2 0 [a.t])).cons (dS 6 0 [.agg [sl (a.jU.map iY.t),sl (a.dW.map iw.t),G 0,dR,dR,dR]])) 1 j->j=1:=λj h=>by
   rcases h with rfl|⟨z,y,v,K,h⟩
   ·rfl
   ·rw[I]at y;simp only[ar]at y;subst y;simp[gH,T.cells]at K;rcases K with rfl|rfl|rfl|rfl|rfl|rfl<;>simp at h
  simp[g];exact⟨⟨⟨Y,Y,Y⟩,λj h=>by rw[H j h];simp,0,0,_,_,_,[],[],I,Gr.nil _ _,Gr.nil _ _,Gr.nil _ _,Y,Y,Y⟩,Y,λh=>absurd (H 0 h) dP⟩
