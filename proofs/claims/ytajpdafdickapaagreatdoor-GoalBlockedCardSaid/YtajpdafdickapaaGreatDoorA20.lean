/- W06m -/
import Derived.Test.YtajpdafdickapaaGreatDoorA19
set_option linter.all false
set_option maxRecDepth 100000
set_option maxHeartbeats 8000000
namespace Go.Proofs.YtajpdafdickapaaGreatDoor
noncomputable section
open Go Go.TI Tryz
attribute [-simp] List.map_take List.map_drop List.map_append fy fa eg Bool.not_or Bool.not_and
attribute [simp] fw fc
def tc:gG:=⟨dY×List Nat,λa=>[a.1.t,.str a.2],λa=>a.1.cells.length<=1000000,λa=> Z (sN (a.1.cells.map iq.name) a.2 0),λa c b=>by
 simp at b;rw[dY.inj b.1,b.2]⟩
def Qy:tc.Ok prog cx 237:=by
 refine fZ [] (iX 1049655 [] func237) (λo=>o.1.cells.length+1) (by simp[tc]) ?_;rintro⟨k,l⟩ hl b m;simp[tc]at hl m|-;obtain⟨p,c⟩:=m;simp[f237,p];refine fD k.cells.length J (λi b g=>il 1 g/\g.get 0=some (dE 6 0 [k.t])/\dF b 1 (.str l)/\dF b 2 (.ptr 0 0 0 0)/\dF b 5 (Z i)/\sN ((k.cells.drop i).map iq.name) l i=sN (k.cells.map iq.name) l 0) ?_ ?_ J (by simp[c])
 ·rintro i b g n q ⟨j,f,c,h,d,a⟩;rw[aI n,aP,sN]at a;simp[f,c,h,d,n];refine ej (λe=>?_) (λe=>?_)
  ·simp at e;rw[ar e]at a;simp[d,<-a,j.hp]
  ·simp at e;rw[aq e]at a;simp[f,c,h,d,q,a,j]
 ·rintro b g ⟨j,f,c,h,d,a⟩;simp[sN]at a;simp[f,h,d,<-a,j.hp]
def Mr{c:fJ}(ht:c.p 237=some tc)(a:dY)(b:List Nat)(hl:a.cells.length<=1000000):rl prog cx c 237 [a.t,.str b]=some (Z (sN (a.cells.map iq.name) b 0)):=im ht Qy (a,b) hl
def s7:gG:=⟨List iI×List Nat,λa=>[sl (a.1.map iI.t),.str a.2],λa=>a.1.length<=1000000,λa=> Z (sN (a.1.map iI.name) a.2 0),λa c b=>by
 simp at b;rw[jx (λ_ _=>iI.inj) b.1,b.2]⟩
def Qa:s7.Ok prog cx 153:=by
 refine fZ [] (iX 262707 [] func153) (λm=>m.1.length+1) (by simp[s7]) ?_;rintro⟨h,j⟩ hl c k;simp[s7]at hl k|-;obtain⟨b,d⟩:=k;simp[f153];refine fD h.length J (λg c i=>i=hE/\dF c 0 (sl (h.map iI.t))/\dF c 1 (.str j)/\dF c 5 (Z g)/\sN ((h.drop g).map iI.name) j g=sN (h.map iI.name) j 0) ?_ ?_ J (by simp[b,d])
 ·rintro g c i l n ⟨rfl,b,d,e,a⟩;rw[aI l,aP,sN]at a;simp[b,d,e,l];refine ej (λf=>?_) (λf=>?_)
  ·simp at f;rw[ar f]at a;simp[e,<-a]
  ·simp at f;rw[aq f]at a;simp[b,d,e,n,a]
 ·rintro c i ⟨rfl,b,d,e,a⟩;simp[sN]at a;simp[b,e,<-a]
def Mp{c:fJ}(ht:c.p 153=some s7)(a:List iI)(b:List Nat)(hl:a.length<=1000000):rl prog cx c 153 [sl (a.map iI.t),.str b]=some (Z (sN (a.map iI.name) b 0)):=im ht Qa (a,b) hl
def tW(W:dY)(a:List (List Nat))(b:T)(c next:Int):List T:=
 [sl (W.cells.map iq.t),sl (W.ei.map iI.t),sl (W.gF.map ja.t),sl (W.ee.map T.str),sl (W.dH.map T.str),sl (W.iJ.map iK.t),sl (a.map T.str),b,Z c,Z next]
structure Gn(W:dY)(L:List (List Nat))(n:Nat)(h:H)(g:Nat):Prop where
 ok:il 0 h
 fp:∀b,Fp h g b->b<h.size
 ex:∃ver ov jk next,∃O:List fR,h.get g=some (dE 10 ver [.agg (tW W L ov jk next)])/\Gr h ov 6 (O.map fR.t)/\O.length=n
def Gn.lt{W:dY}{c:List (List Nat)}{e:Nat}{b:H}{a:Nat}(d:Gn W c e b a):a<b.size:=d.fp a (.inl rfl)
def Gn.same{W:dY}{f:List (List Nat)}{k:Nat}{c d:H}{b:Nat}(j:Gn W f k c b)(q:il 0 d)(h:∀a,Fp c b a->d.get a=c.get a)(p:c.size<=d.size):Gn W f k d b:=by
 obtain⟨s,l,r,next,m,g,n,o⟩:=j.ex;have i:=h b (.inl rfl);exact⟨q,λa e=>by rw[iT i]at e;exact bD (j.fp a e) p,s,l,r,next,m,by rw[i];exact g,n.mono λa e=>h a (.inr ⟨_,g,l,by simp[fF,T.cells,tW],e⟩),o⟩
theorem Gn.cons{W:dY}{b:List (List Nat)}{e:Nat}{d:H}{c:Nat}(a:Gn W b e d c)(f:iY):Gn W b e (d.cons f) c:=
 a.same (a.ok.cons f) (λg h=>by rw[dS,aq (by have:=a.fp g h;omega)]) dy 
def Gn.hr{W:dY}{b:List (List Nat)}{e:Nat}{a:H}{c:Nat}(d:Gn W b e a c):Gn W b e (TI.hr a) c:=d.same d.ok.hr (λf _=>ik a f) (aw _)
def Gn.out{W:dY}{b:List (List Nat)}{e:Nat}{h a:H}{c:Nat}(d:Gn W b e a c):Gn W b e (md h a) c:=d.same (d.ok.out h) (λf _=>fV h a f) (aw _)
def Gn.Ir{W:dY}{a:List (List Nat)}{h b f:Nat}{c:H}{d:T}{q next:Int}{g:List fR}(k:Gn W a h c b)(l:c.get b=some (dE 10 f [.agg (tW W a d q next)]))(gO:Gr c d 6 (g.map fR.t))(m:g.length=h)(e next':Int):
 Step b c (dZ c b (dE 10 (f+1) [.agg (tW W a d e next')]))/\Gn W a h (dZ c b (dE 10 (f+1) [.agg (tW W a d e next')])) b:=by
 obtain⟨i,n,o,p⟩:=Co k.ok k.fp l (cells':=tW W a d e next') (λr j=>by
  simp[tW]at j|-;rcases j with rfl|rfl|rfl|rfl|rfl|rfl|rfl|rfl|rfl|rfl<;>simp) _ rfl
 exact⟨i,⟨i.ok.hp,i.ok.low,ax _⟩,n,f+1,d,e,next',g,o,p _ _ _ gO dB,m⟩
def Gn.app{W:dY}{b:List (List Nat)}{n a f:Nat}{c d:H}{h j:T}{e next:Int}{g:List fR}{x:fR}(o:Gn W b n c a)(k:c.get a=some (dE 10 f [.agg (tW W b h e next)]))(gO:Gr c h 6 (g.map fR.t))(r:g.length=n)(s:Cg c h 6 (g.map fR.t++[x.t]) j d):
 d.get a=some (dE 10 f [.agg (tW W b h e next)])/\fk c d a=true/\Step a c (dZ d a (dE 10 (f+1) [.agg (tW W b j e next)]))/\Gn W b (n+1) (dZ d a (dE 10 (f+1) [.agg (tW W b j e next)])) a:=by
 obtain⟨l,u⟩:=xm (i:=7) o.ok o.fp k rfl dB gO s.xt;obtain⟨m,p,q,v⟩:=u _ rfl;exact⟨l.trans k,fG l,m,⟨m.ok.hp,m.ok.low,ax _⟩,p,f+1,j,e,next,g++[x],by rw[dN (l.trans k),ar rfl],by rw[List.map_append];exact q,by simp[r]⟩
def Gn.elem{W:dY}{k:List (List Nat)}{g c b d h:Nat}{f:Bool}{a:H}{e:List T}{i:Nat}{x:fR}(u:Gn W k g a c)(m:a.get b=some ⟨6,d,h,f,false,e⟩)(A:Fp a c b)(r:b≠c)
 (B:∃q n o next,∃j:List fR,a.get c=some (dE 10 q [.agg (tW W k n o next)])/\n= .arr b d 0 g false/\e.take g=j.map fR.t/\j.length=g/\i<g):
 Step c a (dZ a b ⟨6,d,h+1,f,false,e.set i x.t⟩)/\Gn W k g (dZ a b ⟨6,d,h+1,f,false,e.set i x.t⟩) c:=by
 obtain⟨q,n,o,next,j,y,rfl,z,l,C⟩:=B;have p:=Step.aaU u.ok m A r ⟨6,d,h+1,f,false,e.set i x.t⟩;have s:(dZ a b ⟨6,d,h+1,f,false,e.set i x.t⟩).get c=a.get c:=by rw[dN m,aq (aY r)]
 refine⟨p,⟨p.ok.hp,p.ok.low,ax _⟩,λw v=>by rw[iT s]at v;rw[fK];exact u.fp w v,q,_,o,next,j.set i x,by rw[s];exact y,.inr ⟨b,d,h+1,f,e.set i x.t,by simp[l],by rw[dN m,ar rfl],?_⟩,by simp[l]⟩;rw[aH,cR,l,List.take_set,z,br]
structure EH where
 (W:dY) (L:List (List Nat)) (n g:Nat) (i:fR)
def uR(a:EH)(b:List T)(c:H):Prop:=b=[.ptr a.g 0 0 0,a.i.t]/\Gn a.W a.L a.n c a.g/\a.n<=100000000
def rI(a:EH)(e:List T)(c:H)(d:T)(b:H):Prop:=d= .tuple []/\Step a.g c b/\Gn a.W a.L (a.n+1) b a.g
def LA:(jM EH uR rI).Ok prog cx 105:=by
 refine jB (tb:=⟨pt [],ht []⟩) iR iE (iX 11 [] func105) (λ_ _=>5) (λd N h H=>by obtain⟨rfl,_⟩:=H;simp[f105]) ?_;rintro⟨W,v,Q,j,d⟩ _ h ⟨rfl,f,F⟩ U p;simp only at f F;simp at p;obtain⟨B,C⟩:=p;have P:=f.lt;have G:(j=h.size)=False:=dz;obtain⟨M,l,e,next,y,g,gO,D⟩:=f.ex;have k:=(f.hr.cons (dE 6 1 [fR.t ⟨d.op,d.a,d.b,d.c,d.n,e⟩]));have q:=k.cons (dE 6 0 [fR.t ⟨d.op,d.a,d.b,d.c,d.n,e⟩]);have L:=(Step.cons (w:=j) f.ok.hr f.lt (dE 6 1 [fR.t ⟨d.op,d.a,d.b,d.c,d.n,e⟩])).trans (Step.cons k.ok k.lt (dE 6 0 [fR.t ⟨d.op,d.a,d.b,d.c,d.n,e⟩]));have A:(((hr h).cons (dE 6 1 [fR.t ⟨d.op,d.a,d.b,d.c,d.n,e⟩])).cons (dE 6 0 [fR.t ⟨d.op,d.a,d.b,d.c,d.n,e⟩])).get j=some (dE 10 M [.agg (tW W v l e next)]):=by
  rw[dS,aq dz,dS,aq dz,ik];exact g
 have o:Gr (((hr h).cons (dE 6 1 [fR.t ⟨d.op,d.a,d.b,d.c,d.n,e⟩])).cons (dE 6 0 [fR.t ⟨d.op,d.a,d.b,d.c,d.n,e⟩])) l 6 (y.map fR.t):=gO.mono λm E=>by
  have:m<h.size:=f.fp m (.inr ⟨_,g,l,by simp[fF,T.cells,tW],E⟩);rw[dS,aq dz,dS,aq dz,ik]
 obtain⟨S,O,z,i⟩:=o.app (cx:=cx) q.ok (x:= .arr (h.size+1) 0 0 1 false) (xs:=[fR.t ⟨d.op,d.a,d.b,d.c,d.n,e⟩]) L6 rfl TU L6 rfl rfl dy (by rw[ig];simp) dy dy dz;obtain⟨r,R,I,K⟩:=q.app A o D i;have s:=(L.trans I).out;have u:=K.out (h:=h);simp only[tW]at g r s u;simp[f105,B,C,g,G,z,r,i.gr.iy,i.gr.cells,dX];exact⟨rfl,s,u⟩
structure K8 where
 (W:dY) (L:List (List Nat)) (n g:Nat) (e:dU) (d:Int)
def okW(W:dY):Prop:=W.cells.length<=1000000/\W.ei.length<=1000000/\W.gF.length<=1000000/\W.ee.length<=1000000/\W.dH.length<=1000000/\∃a,a<W.cells.length/\sN (W.cells.map iq.name) [113] 0=a
def Gk(a:K8)(b:List T)(c:H):Prop:=b=[.ptr a.g 0 0 0,a.e.t,Z a.d]/\Gn a.W a.L a.n c a.g/\okW a.W/\a.L.length<=1000000/\ME a.e/\a.n+a.e.w<=10000000
def afL(W:dY)(e:List (List Nat))(d g b:Nat)(f c:H):Prop:=Step b f c/\∃a,d<a/\a<=d+g/\Gn W e a c b
def Cn(a:K8)(f:List T)(b:H)(d:T)(c:H):Prop:=d= .tuple []/\afL a.W a.L a.n a.e.w a.g b c
def oO{d:fJ}{l:Nat}{W:dY}{e:List (List Nat)}{c a:Nat}{i:fR}{f:H}{m:af Oper}{j:aa Tmp}{k:List Oper}{o n:fW}{g:iS}(ht:d.h 105=some (jM EH uR rI))(r:Gn W e c f a)(q:c<=100000000)
 (p:∀b,Step a f b->Gn W e (c+1) b a->XK (some (.tuple [],b)) cx (qZ prog cx d) l m j k o n g):XK (hl prog cx d 105 [.ptr a 0 0 0,i.t] f) cx (qZ prog cx d) l m j k o n g:=
 iC LA ht ⟨W,e,c,a,i⟩ ⟨rfl,r,q⟩ (by rintro _ b ⟨rfl,u,s⟩;exact p b u s)
def acs{e:fJ}{p:Nat}{W:dY}{f:List (List Nat)}{d a:Nat}{l:fR}{b:H}{r:af Oper}{i:List (Nat×Nat)}{j:aa Tmp}{q:Op}{n:List Oper}{m:Nat}{o:List (Nat×Nat)}{k:List (Nat×H×H)}{u s:fW}{g:iS}(ht:e.h 105=some (jM EH uR rI))(x:Gn W f d b a)(w:d<=100000000)
 (v:∀c,Step a b c->Gn W f (d+1) c a->Sb (some (.tuple [],c)) cx (qZ prog cx e) p r i j q n m o k u s b g):Sb (hl prog cx e 105 [.ptr a 0 0 0,l.t] b) cx (qZ prog cx e) p r i j q n m o k u s b g:=
 mF LA ht ⟨W,f,d,a,l⟩ ⟨rfl,x,w⟩ (by rintro _ c ⟨rfl,z,y⟩;exact v c z y)
def Ov(c:Nat)(E:(jM K8 (λf a b=>Gk f a b/\f.e.w<c) Cn).Ok prog cx 200):(jM K8 (λf a b=>Gk f a b/\f.e.w<c+1) Cn).Ok prog cx 200:=by
 refine jB (tb:=⟨pt [(130,Dc),(237,tc)],ht [(105,jM EH uR rI),(200,jM K8 (λf a b=>Gk f a b/\f.e.w<c) Cn)]⟩) iR iE (iX 20282409606012871684182924853463 [] func200) (λ_ _=>5) (λf a b ap=>by obtain⟨⟨rfl,_⟩,_⟩:=ap;simp[f200]) ?_;rintro⟨W,s,q,v,u,I⟩ _ b ⟨⟨rfl,c,k,y,hE,ae⟩,V⟩ bS l;simp only at c k y hE ae V;simp at l;obtain⟨d,Q,i⟩:=l;obtain⟨m,X,Y⟩:=k.2.2.2.2.2;have a8:=c.lt;have M:(v=b.size)=False:=dz;obtain⟨bH,bs,bB,next,O,B,gO,aX⟩:=c.ex;simp only[tW]at B;have o:=c.hr.cons (dE 4 0 [u.t]);have l1:=Lb.new c.hr.lt c.hr.fp (dE 4 0 [u.t]);have r:=Step.cons c.ok.hr c.hr.lt (dE 4 0 [u.t]);have P:=λ{tb:fJ} (b:tb.p 130=some Dc) H=>Ot b s H J;have K:=λ{tb:fJ} (b:tb.p 237=some tc) H=>Mr b W H k.1;have a7:=u.lF;simp[f200,Q];cases hE with
 |num a=>
  simp[d,i];refine oO dy o J λx h g=>?_;simp;exact⟨rfl,(r.trans h).out,q+1,dA,dA,g.out⟩
 |nm a=>
  simp[d,B,M,P];refine ej (λU=>?_) (λU=>?_)
  ·simp[d,i];refine oO dy o J λx h g=>?_;simp;exact⟨rfl,(r.trans h).out,q+1,dA,dA,g.out⟩
  ·simp[d,i,B,M,K];refine oO dy o J λx h g=>?_;simp;exact⟨rfl,(r.trans h).out,q+1,dA,dA,g.out⟩
 | @ix a l=>
  have S:(dU.mk 3 0 [113] [a]).w=1+a.w:=by rw[dU.lF];simp[dU.ke,dU.iW]
  simp[d,i];refine iC E dy ⟨W,s,q,v,a,I⟩ ⟨⟨rfl,o,k,y,l,dA⟩,dA⟩ ?_;rintro _ R ⟨rfl,j,F,C,D,n⟩;simp only at j C D n;have l2:=l1.step j;obtain⟨bN,bu,bC,bn,aA,L,aE,a6⟩:=n.ex;simp only[tW,oq]at L l2;simp[d,i,L,l2.get,K,Y,X];refine oO dy n J λx h g=>?_;simp;exact⟨rfl,((r.trans j).trans h).out,F+1,dA,dA,g.out⟩
 | @bin z a A bi l T=>
  have S:(dU.mk z 0 [] [a,A]).w=1+a.w+A.w:=by rw[dU.lF];simp[dU.ke,dU.iW];omega
  simp[d,i,show¬z=1 by omega,show¬z=2 by omega,show¬z=3 by omega];refine iC E dy ⟨W,s,q,v,a,I⟩ ⟨⟨rfl,o,k,y,l,dA⟩,dA⟩ ?_;rintro _ R ⟨rfl,j,F,C,D,n⟩;simp only at j C D n;have l2:=l1.step j;simp only[oq]at l2;simp[d,i,l2.get,oG];refine iC E dy ⟨W,s,F,v,A,_⟩ ⟨⟨rfl,n,k,y,T,dA⟩,dA⟩ ?_;rintro _ aN ⟨rfl,G,av,al,an,N⟩;simp only at G al an N;have l3:=l2.step G;simp[d,i,l3.get,oG];refine oO dy N J λx h g=>?_;simp;exact⟨rfl,(((r.trans j).trans G).trans h).out,av+1,dA,dA,g.out⟩
abbrev O8:li:=jM K8 (λa b c=>Gk a b c/\a.e.w<10000001) Cn
def SY:O8.Ok prog cx 200:=Al (λa:K8=>a.e.w) Ov 10000001
def Jc{g:fJ}{n:Nat}{W:dY}{f:List (List Nat)}{d b:Nat}{a:dU}{k:Int}{i:H}{o:af Oper}{l:aa Tmp}{m:List Oper}{q p:fW}{j:iS}(ht:g.h 200=some O8)(y:Gn W f d i b)(u:okW W)(s:f.length<=1000000)(v:ME a)(x:d+a.w<=10000000)
 (r:∀c e,Step b i c->d<e->e<=d+a.w->Gn W f e c b->XK (some (.tuple [],c)) cx (qZ prog cx g) n o l m q p j):XK (hl prog cx g 200 [.ptr b 0 0 0,a.t,Z k] i) cx (qZ prog cx g) n o l m q p j:=
 iC SY ht ⟨W,f,d,b,a,k⟩ ⟨⟨rfl,y,u,s,v,x⟩,dA⟩ (by rintro _ c ⟨rfl,C,e,z,A,B⟩;exact r c e C z A B)
structure Ys where
 (W:dY) (L:List (List Nat)) (n g:Nat) (s:dO)
def Dg(a:Ys)(b:List T)(c:H):Prop:=b=[.ptr a.g 0 0 0,a.s.t]/\Gn a.W a.L a.n c a.g/\okW a.W/\a.L.length<=1000000/\MS a.s/\a.n+a.s.w<=10000000
def ym(a:Ys)(f:List T)(d:H)(e:T)(c:H):Prop:=e= .tuple []/\Step a.g d c/\∃b,a.n<=b/\b<=a.n+a.s.w/\Gn a.W a.L b c a.g
def Kh:(jM Ys (λv y a=>Dg v y a/\v.s.op=1) ym).Ok prog cx 196:=by
 refine jB (tb:=⟨pt [(130,Dc),(237,tc)],ht [(105,jM EH uR rI),(200,O8)]⟩) iR iE (iX 36893488147419136123 [] func196) (λ_ _=>5) (λv y a X=>by obtain⟨⟨rfl,_⟩,_⟩:=X;simp[f196]) ?_;rintro⟨W,H,n,L,j⟩ _ a ⟨⟨rfl,c,e,o,q,U⟩,u⟩ bC C;simp only at c e o q U u;simp at C;obtain⟨b,N⟩:=C;obtain⟨m,S,T⟩:=e.2.2.2.2.2;have a8:=c.lt;have V:(L=a.size)=False:=dz;obtain⟨bB,bi,bu,next,O,A,gO,a7⟩:=c.ex;simp only[tW]at A;have E:=c.hr.cons (dE 11 0 [j.t]);have l1:=Lb.new c.hr.lt c.hr.fp (dE 11 0 [j.t]);have x:=Step.cons c.ok.hr c.hr.lt (dE 11 0 [j.t]);have K:=λ{tb:fJ} (a:tb.p 130=some Dc) l=>Ot a H l J;have z:=λ{tb:fJ} (a:tb.p 237=some tc) l=>Mr a W l e.1;have ae:=j.lF;have D:=q.ex (.inl u);simp[f196,b,N,A,V];cases g:j.index with
 |cons l r=>
  have Y:=q.arr u (by rw[g];simp);have al:=q.ind l (by rw[g];simp);rw[g,dU.ke]at ae;simp[b,g];refine Jc dy E e o al J λP w f aA aE h=>?_;have l2:=l1.step f;simp only[oq]at l2;simp[b,l2.get,oG];refine Jc dy h e o D J λa6 an G bn bs F=>?_;have l3:=l2.step G;obtain⟨aX,av,aN,ap,I,d,M,Q⟩:=F.ex;simp only[tW]at d;simp[b,l3.get,d,z,Y,T,S,oG];refine oO dy F J λB k i=>?_;simp;exact⟨rfl,(((x.trans f).trans G).trans k).out,an+1,dA,dA,i.out⟩
 |nil=>
  simp[b,g];refine Jc dy E e o D J λP w f aA aE h=>?_;have l2:=l1.step f;simp only[oq]at l2;obtain⟨aX,av,aN,ap,I,d,M,Q⟩:=h.ex;simp only[tW]at d;simp[b,l2.get,d,K];refine ej (λR=>?_) (λR=>?_)
  ·simp[b];refine oO dy h J λB k i=>?_;simp;exact⟨rfl,((x.trans f).trans k).out,w+1,dA,dA,i.out⟩
  ·simp[b,l2.get,d,z];refine oO dy h J λB k i=>?_;simp;exact⟨rfl,((x.trans f).trans k).out,w+1,dA,dA,i.out⟩
def Gj:li:=⟨λd a=>∃W c f b h,d=[.ptr b 0 0 0,.str h]/\Gn W c f a b/\okW W,λ_ a g e=>e=a/\FR g⟩
def Qt:Gj.Ok prog cx 199:=by
 refine Jy (tb:=⟨pt [],ht []⟩) iR iE (iX 67117107 [] func199) false (λ_ _=>1000005) (λt f q=>by obtain⟨W,l,r,i,k,rfl,_⟩:=q;simp[f199]) ?_;rintro _ f ⟨W,l,r,i,k,rfl,e,m⟩ b j;simp at j;obtain⟨a,c⟩:=j;obtain⟨y,w,x,next,s,g,gO,u⟩:=e.ex;simp only[tW]at g;have hl:=m.2.2.1;simp[f199];refine fD W.gF.length J (λe b h=>h=hr f/\dF b 0 (.ptr i 0 0 0)/\dF b 1 (.str k)/\dF b 5 (Z e)) ?_ ?_ J (by simp[a,c])
 ·rintro v b h p n ⟨rfl,a,c,d⟩;simp[a,c,d,g,p];refine ej (λo=>?_) (λo=>?_)
  ·simp[d];exact qD f _ _ e.ok.hp (Fr.refl _ _) rfl ⟨rfl,dy⟩
  ·simp[a,c,d,n]
 ·rintro b h ⟨rfl,a,c,d⟩;simp[a,d,g];exact qD f _ _ e.ok.hp (Fr.refl _ _) rfl ⟨rfl,dy⟩
def Gn.opn{W:dY}{r:List (List Nat)}{a:Nat}{j:H}{h:Nat}(u:Gn W r a j h)(x:0<a):∃p o next,∃b:List fR,∃c g q k f,j.get h=some (dE 10 p [.agg (tW W r (.arr c g 0 a false) o next)])/\j.get c=some ⟨6,g,q,k,false,f⟩/\c≠h/\Fp j h c/\f.take a=b.map fR.t/\b.length=a/\∀e,e<a->∃w:fR,f[e]? =some w.t:=by
 obtain⟨p,y,o,next,b,i,gO,n⟩:=u.ex;rcases gO with⟨_,d⟩|⟨c,g,q,k,f,rfl,d,m⟩
 ·simp at d;subst d;simp at n;omega
 rw[aH,n]at i m;refine⟨p,o,next,b,c,g,q,k,f,i,d,λv=>by subst v;rw[i]at d;simp at d,.inr ⟨_,i,.arr c g 0 a false,by simp[fF,T.cells,tW],rfl⟩,m,n,λe s=>⟨b[e],?_⟩⟩;have:(f.take a)[e]? =(b.map fR.t)[e]? :=by rw[m]
 rw[cu,ar s,aS,az (l:=b) J]at this;exact this
def SR(W:dY)(e:List (List Nat))(d b g:Nat)(f c:H):Prop:=Step b f c/\∃a,d<=a/\a<=d+g/\Gn W e a c b
structure acM where
 (W:dY) (L:List (List Nat)) (n g:Nat) (l:List dO)
def Wu(a:acM)(b:List T)(c:H):Prop:=b=[.ptr a.g 0 0 0,sl (a.l.map dO.t)]/\Gn a.W a.L a.n c a.g/\okW a.W/\a.L.length<=1000000/\(∀d∈a.l,MS d)/\a.n+dO.ws a.l<=10000000
abbrev ES(e:Nat):li:=jM acM (λa c b=>Wu a c b/\dO.ws a.l<e) (λa _ b f d=>f= .tuple []/\SR a.W a.L a.n a.g (dO.ws a.l) b d)
abbrev rSt(d:Nat):li:=jM Ys (λa b c=>Dg a b c/\a.s.w<d) ym
def Mm{j:Nat}(z:(ES j).Ok prog cx 104){g:fJ}{n:Nat}{W:dY}{f:List (List Nat)}{d b:Nat}{a:List dO}{i:H}{o:af Oper}{l:aa Tmp}{m:List Oper}{q p:fW}{k:iS}(ht:g.h 104=some (ES j))(y:Gn W f d i b)(u:okW W)(s:f.length<=1000000)(x:∀D∈a,MS D)(w:d+dO.ws a<=10000000)(v:dO.ws a<j)
 (r:∀c e,Step b i c->d<=e->e<=d+dO.ws a->Gn W f e c b->XK (some (.tuple [],c)) cx (qZ prog cx g) n o l m q p k):XK (hl prog cx g 104 [.ptr b 0 0 0,sl (a.map dO.t)] i) cx (qZ prog cx g) n o l m q p k:=
 iC z ht ⟨W,f,d,b,a⟩ ⟨⟨rfl,y,u,s,x,w⟩,v⟩ (by rintro _ c ⟨rfl,a,e,A,B,C⟩;exact r c e a A B C)
def Bz(ae:Nat)(aX:(ES ae).Ok prog cx 104):(jM Ys (λi a P=>(Dg i a P/\i.s.w<ae+1)/\(i.s.op=2\/i.s.op=3)) ym).Ok prog cx 197:=by
 refine jB (tb:=⟨pt [],ht [(105,jM EH uR rI),(200,O8),(104,ES ae)]⟩) iR iE (iX 590296373308659073275 [] func197) (λ_ _=>5) (λi a P cL=>by obtain⟨⟨⟨rfl,_⟩,_⟩,_⟩:=cL;simp[f197]) ?_;rintro⟨W,N,n,o,U⟩ _ P ⟨⟨⟨rfl,l,S,Q,R,cb⟩,b9⟩,aN⟩ eR aE;simp only at l S Q R cb aN b9;simp at aE;obtain⟨g,bN⟩:=aE;have eu:=l.lt;have cp:(o=P.size)=False:=dz;obtain⟨eM,eC,di,next,O,ap,gO,et⟩:=l.ex;simp only[tW]at ap;have c1:=l.hr.cons (dE 11 0 [U.t]);have l1:=Lb.new l.hr.lt l.hr.fp (dE 11 0 [U.t]);have dk:=Step.cons l.ok.hr l.hr.lt (dE 11 0 [U.t]);have ey:=U.lF;have ca:=R.ex (by rcases aN with q|q<;>simp[q]);simp[f197,g,bN,ap,cp,gO.len (cx:=cx)];refine Jc dy c1 S Q ca J λec j bi p1 p2 a6=>?_;have l2:=l1.step bi;simp only[oq]at l2;obtain⟨eN,eD,eH,eA,dv,av,bB,bT⟩:=a6.ex;simp only[tW]at av;simp[g,av,bB.len (cx:=cx),bT];refine oO dy a6 J λef bn c4=>?_;have l3:=l2.step bn;simp[g,l3.get];refine Mm aX dy c4 S Q R.bd J J λbS e bs p3 p4 a7=>?_;have l4:=l3.step bs;obtain⟨eO,eE,eI,dd,ea,X,bC,b6⟩:=a7.ex;obtain⟨al,A⟩:=a7.Ir X bC b6 di dd;simp only[tW]at X al A;have l5:=l4.step al;have an:=(((dk.trans bi).trans bn).trans bs).trans al;simp[g,X,dX];generalize dZ bS o _=eh at*
 simp[l5.get];refine ej (λY=>?_) (λY=>?_)
 ·simp[g];refine oO dy A J λE V G=>?_;obtain⟨K,I,H,B,z,C,L,D,M,d,f,r,p,v,F,u⟩:=G.opn J;obtain⟨x,k⟩:=u j J;have h:j<e+1:=J;obtain⟨m,y⟩:=G.elem (i:=j) (x:=⟨x.op,x.a,((e+1:Nat):Int),x.c,x.n,x.jk⟩) f p r ⟨K,_,I,H,B,d,rfl,v,F,h⟩;simp only[tW]at d;simp[g,d,f,k,h];exact⟨rfl,((an.trans V).trans (by simpa using m)).out,e+1,dA,dA,(by simpa using y:Gn W N (e+1) _ o).out⟩
 simp[l5.get];refine ej (λY=>?_) (λY=>?_)
 ·simp[g];obtain⟨K,I,H,B,z,C,L,D,M,d,f,r,p,v,F,u⟩:=A.opn J;obtain⟨x,k⟩:=u j J;have h:j<e:=J;obtain⟨m,y⟩:=A.elem (i:=j) (x:=⟨x.op,x.a,(e:Int),x.c,x.n,x.jk⟩) f p r ⟨K,_,I,H,B,d,rfl,v,F,h⟩;simp only[tW]at d;simp[g,d,f,k,h];exact⟨rfl,(an.trans (by simpa using m)).out,e,dA,dA,(by simpa using y:Gn W N e _ o).out⟩
 obtain⟨eP,eF,eL,eB,eb,aA,bH,b7⟩:=A.ex;simp only[tW]at aA;simp[g,aA,bH.len (cx:=cx),b7];refine oO dy A J λE V G=>?_;have l6:=l5.step V;obtain⟨K,I,H,B,z,C,L,D,M,d,f,r,p,v,F,u⟩:=G.opn J;obtain⟨x,k⟩:=u j J;have h:j<e+1:=J;obtain⟨m,y⟩:=G.elem (i:=j) (x:=⟨x.op,x.a,((e+1:Nat):Int),x.c,x.n,x.jk⟩) f p r ⟨K,_,I,H,B,d,rfl,v,F,h⟩;simp only[tW]at d;simp[g,d,f,k,h];replace m:Step o E (dZ E z ⟨6,C,L+1,D,false,M.set j (fR.t ⟨x.op,x.a,(e:Int)+1,x.c,x.n,x.jk⟩)⟩):=by simpa using m
 replace y:Gn W N (e+1) (dZ E z ⟨6,C,L+1,D,false,M.set j (fR.t ⟨x.op,x.a,(e:Int)+1,x.c,x.n,x.jk⟩)⟩) o:=by simpa using y
 have c7:=l6.step m;generalize dZ E z _=eo at*
 clear d f k;simp[c7.get];refine Mm aX dy y S Q R.el J J λer T dm p5 p6 a8=>?_;have HM:=((an.trans V).trans m).trans dm;obtain⟨ds,de,c9,bu,z,C,L,D,M,d,f,r,p,v,b8,u⟩:=a8.opn J;obtain⟨x,k⟩:=u e J;have h:e<T:=J;obtain⟨dn,c6⟩:=a8.elem (i:=e) (x:=⟨x.op,(T:Int),x.b,x.c,x.n,x.jk⟩) f p r ⟨ds,_,de,c9,bu,d,rfl,v,b8,h⟩;simp only[tW]at d;simp[g,d,f,k,h];exact⟨rfl,(HM.trans (by simpa using dn)).out,T,dA,dA,(by simpa using c6:Gn W N T _ o).out⟩
structure IAr where
 (W:dY) (L:List (List Nat)) (n g:Nat) (s:dO) (a b o:Int)
def uJ(j:Nat)(P:(ES j).Ok prog cx 104):(jM IAr (λc A e=>A=[.ptr c.g 0 0 0,c.s.t,Z c.a,Z c.b,Z c.o]/\Dg ⟨c.W,c.L,c.n,c.g,c.s⟩ [.ptr c.g 0 0 0,c.s.t] e/\c.s.w<j+1) (λc _ e V D=>ym ⟨c.W,c.L,c.n,c.g,c.s⟩ [] e V D)).Ok prog cx 198:=by
 refine jB (tb:=⟨pt [],ht [(105,jM EH uR rI),(104,ES j)]⟩) iR iE (iX 1119 [] func198) (λ_ _=>5) (λc z e N=>by obtain⟨rfl,_⟩:=N;simp[f198]) ?_;rintro⟨W,L,n,B,f,z,b,o⟩ _ e ⟨rfl,⟨_,d,q,m,p,K⟩,I⟩ bs r;simp only at d q m p K I;simp at r;obtain⟨i,E,F,G,l⟩:=r;have aN:=d.lt;have M:(B=e.size)=False:=dz;obtain⟨bi,a6,X,next,O,k,gO,aE⟩:=d.ex;simp only[tW]at k;have Q:=d.hr.cons (dE 11 0 [f.t]);have l1:=Lb.new d.hr.lt d.hr.fp (dE 11 0 [f.t]);have Y:=Step.cons d.ok.hr d.hr.lt (dE 11 0 [f.t]);have aX:=f.lF;simp[f198,i,E,F,l,k,M];refine oO dy Q J λap x R=>?_;have l3:=l1.step x;simp only[oq]at l3;simp[i,l3.get];refine Mm P dy R q m p.bd J J λav T ae p3 p4 u=>?_;obtain⟨bn,a7,a8,U,an,h,C,H⟩:=u.ex;obtain⟨y,v⟩:=u.Ir h C H X U;simp only[tW]at h y v;simp[i,G,l,h,dX];refine oO dy v J λaA al S=>?_;simp;exact⟨rfl,((((Y.trans x).trans ae).trans y).trans al).out,T+1,dA,dA,S.out⟩
def OJ(m:Nat)(E:(rSt m).Ok prog cx 155):(ES m).Ok prog cx 104:=by
 refine jB (tb:=⟨pt [],ht [(155,rSt m)]⟩) iR iE (iX 275 [] func104) (λ_ _=>10000005) (λc G r D=>by obtain⟨⟨rfl,_⟩,_⟩:=D;simp[f104]) ?_;rintro⟨W,q,n,f,l⟩ _ r ⟨⟨rfl,j,v,s,u,C⟩,B⟩ d w;simp only at j v s u C B;simp at w;obtain⟨e,b⟩:=w;have hl:=dO.uZ (l:=l);simp[f104];refine fD l.length J (λc d g=>Step f (hr r) g/\(∃a,n<=a/\a<=n+dO.ws (l.take c)/\Gn W q a g f)/\dF d 0 (.ptr f 0 0 0)/\dF d 1 (sl (l.map dO.t))/\dF d 4 (Z c)) ?_ ?_ J (by simp[e,b,Step.refl j.ok.hr];exact⟨n,aw _,J,j.hr⟩)
 ·rintro c d g i A ⟨p,⟨a,y,o,k⟩,e,b,h⟩;have L:=dO.Gb l i;have K:=dO.yd l (c+1);have I:=dO.vP (aF i);simp[e,b,h,i];refine iC E dy ⟨W,q,a,f,l[c]⟩ ⟨⟨rfl,k,v,s,u _ (aF i),dA⟩,dA⟩ ?_;rintro _ H ⟨rfl,z,F,p1,p2,x⟩;simp only at z p1 p2 x;simp[e,b,h,A];exact⟨p.trans z,F,J,J,x⟩
 ·rintro d g ⟨p,⟨a,y,o,k⟩,e,b,h⟩;rw[aK]at o;simp[b,h];exact⟨p.out,a,y,o,k.out⟩
def SC(A:Nat)(M:(ES A).Ok prog cx 104):(rSt (A+1)).Ok prog cx 155:=by
 obtain⟨F,a8⟩:=hlI Qt (λ_ _ _ _ G=>G);refine jB (tb:=⟨pt [(130,Dc),(153,s7)],ht [(105,jM EH uR rI),(200,O8),(196,jM Ys (λe N i=>Dg e N i/\e.s.op=1) ym),(197,jM Ys (λe N i=>(Dg e N i/\e.s.w<A+1)/\(e.s.op=2\/e.s.op=3)) ym),
  (198,jM IAr (λe aA i=>aA=[.ptr e.g 0 0 0,e.s.t,Z e.a,Z e.b,Z e.o]/\Dg ⟨e.W,e.L,e.n,e.g,e.s⟩ [.ptr e.g 0 0 0,e.s.t] i/\e.s.w<A+1) (λe _ i r j=>ym ⟨e.W,e.L,e.n,e.g,e.s⟩ [] i r j)),(199,Gj)]⟩) iR iE (iX 365376106316094180278949616271352870286206697499 [(11,[(1,9)]),(13,[(1,9)]),(15,[(1,9)]),(34,[(7,12),(7,14)])] func155) (λ_ _=>5) (λe N i bs=>by obtain⟨⟨rfl,_⟩,_⟩:=bs;simp[f155]) ?_
 rintro⟨W,B,k,y,l⟩ _ i ⟨⟨rfl,G,x,D,E,I⟩,K⟩ et ae;simp only at G x D E I K;simp at ae;obtain⟨C,a7⟩:=ae;have c4:=G.lt;have c6:(y=i.size)=False:=dz;obtain⟨ec,de,ds,next,O,aN,gO,cp⟩:=G.ex;have an:=G.hr.cons (dE 11 0 [l.t]);have l1:=Lb.new G.hr.lt G.hr.fp (dE 11 0 [l.t]);have bH:=Step.cons G.ok.hr G.hr.lt (dE 11 0 [l.t]);have c7:=l.lF;obtain⟨ef,di,dv,av,bS,R,aX,bi⟩:=an.ex;obtain⟨U,T⟩:=an.Ir R aX bi av av;obtain⟨eh,dk,bC,bB,bT,S,a6,bn⟩:=T.ex;obtain⟨V,f⟩:=T.Ir S a6 bn bC (IntKind.i64.wrap (bB+1));have l3:=(l1.step U).step V;simp only[tW,oq]at aN R U T S V f l3;simp[f155,C,a7,R,dX,S,oG];have m:=(bH.trans U).trans V;have P:=λ{tb:fJ} (ht:tb.h 199=some Gj) H=>a8 ht [.ptr y 0 0 0,.str H] _ ⟨W,B,k,y,H,rfl,f,x⟩;generalize dZ (dZ _ y _) y _=ca at*
 obtain⟨eo,dm,ea,c9,b6,z,b8,cL⟩:=f.ex;simp only[tW]at z;have aE:=λ{tb:fJ} (i:tb.p 130=some Dc) H=>Ot i B H J;have eT:=λ{tb:fJ} (i:tb.p 130=some Dc) H=>Ot i W.dH H (by have:=x.2.2.2.2.1;omega);have X:=λ{tb:fJ} (i:tb.p 130=some Dc) H=>Ot i W.ee H (by have:=x.2.2.2.1;omega);have Q:=λ{tb:fJ} (i:tb.p 153=some s7) H=>Mp i W.ei H x.2.1;simp[z,l3.get]
 repeat' (refine ej (λal=>?_) (λal=>?_)<;>simp[al,C,l3.get])
 ·try simp[C,l3.get]
  refine iC Kh dy ⟨W,B,k,y,l⟩ ⟨⟨rfl,f,x,D,E,I⟩,by simpa using‹decide (l.op=1)=true›⟩ ?_;rintro _ j ⟨rfl,c,q,u,v,d⟩;simp;exact⟨rfl,(m.trans c).out,q,u,v,d.out⟩
 ·try simp[C,l3.get]
  refine iC (Bz A M) dy ⟨W,B,k,y,l⟩ ⟨⟨⟨rfl,f,x,D,E,I⟩,K⟩,.inl (by simpa using‹decide (l.op=2)=true›)⟩ ?_;rintro _ j ⟨rfl,c,q,u,v,d⟩;simp;exact⟨rfl,(m.trans c).out,q,u,v,d.out⟩
 ·try simp[C,l3.get]
  refine iC (Bz A M) dy ⟨W,B,k,y,l⟩ ⟨⟨⟨rfl,f,x,D,E,I⟩,K⟩,.inr (by simpa using‹decide (l.op=3)=true›)⟩ ?_;rintro _ j ⟨rfl,c,q,u,v,d⟩;simp;exact⟨rfl,(m.trans c).out,q,u,v,d.out⟩
 ·simp[l3.get,z,Q];refine mF (uJ A M) dy ⟨W,B,k,y,l,11,12,_⟩ ⟨rfl,⟨rfl,f,x,D,E,I⟩,K⟩ ?_;rintro _ j ⟨rfl,c,q,u,v,d⟩;simp;exact⟨rfl,(m.trans c).out,q,u,v,d.out⟩
 ·simp[l3.get,z,Q];refine mF (uJ A M) dy ⟨W,B,k,y,l,13,14,_⟩ ⟨rfl,⟨rfl,f,x,D,E,I⟩,K⟩ ?_;rintro _ j ⟨rfl,c,q,u,v,d⟩;simp;exact⟨rfl,(m.trans c).out,q,u,v,d.out⟩
 ·simp[l3.get,z,Q];refine mF (uJ A M) dy ⟨W,B,k,y,l,15,16,_⟩ ⟨rfl,⟨rfl,f,x,D,E,I⟩,K⟩ ?_;rintro _ j ⟨rfl,c,q,u,v,d⟩;simp;exact⟨rfl,(m.trans c).out,q,u,v,d.out⟩
 ·try simp[C,l3.get,z]
  refine iC (uJ A M) dy ⟨W,B,k,y,l,17,18,_⟩ ⟨rfl,⟨rfl,f,x,D,E,I⟩,K⟩ ?_;rintro _ j ⟨rfl,c,q,u,v,d⟩;simp;exact⟨rfl,(m.trans c).out,q,u,v,d.out⟩
 ·try simp[C,l3.get,z]
  refine iC (uJ A M) dy ⟨W,B,k,y,l,19,20,_⟩ ⟨rfl,⟨rfl,f,x,D,E,I⟩,K⟩ ?_;rintro _ j ⟨rfl,c,q,u,v,d⟩;simp;exact⟨rfl,(m.trans c).out,q,u,v,d.out⟩
 ·simp[P];refine oO dy f J λj c d=>?_;simp;exact⟨rfl,(m.trans c).out,k+1,dA,dA,d.out⟩
 ·simp[P];refine oO dy f J λj c d=>?_;simp;exact⟨rfl,(m.trans c).out,k+1,dA,dA,d.out⟩
 ·simp[P];refine oO dy f J λj c d=>?_;simp;exact⟨rfl,(m.trans c).out,k+1,dA,dA,d.out⟩
 ·simp[l3.get,z,eT];refine oO dy f J λj c d=>?_;simp;exact⟨rfl,(m.trans c).out,k+1,dA,dA,d.out⟩
 ·simp[l3.get,z,eT];refine oO dy f J λj c d=>?_;simp;exact⟨rfl,(m.trans c).out,k+1,dA,dA,d.out⟩
 ·try simp[C,l3.get,z]
  refine Jc dy f x D (E.ex (.inr (.inr (.inr (by simpa using‹decide (l.op=14)=true›))))) J λcb bu c p1 p2 ap=>?_;obtain⟨er,dn,eb,dd,b7,Y,b9,c1⟩:=ap.ex;simp only[tW]at Y;simp[C,(l3.step c).get,Y,X];refine oO dy ap J λj bN d=>?_;simp;exact⟨rfl,((m.trans c).trans bN).out,bu+1,dA,dA,d.out⟩
 ·simp[C,l3.get,z,aE,X];refine acs dy f J λj c d=>?_;simp;exact⟨rfl,(m.trans c).out,k+1,dA,dA,d.out⟩
 ·exact⟨rfl,m.out,k,aw _,dA,f.out⟩
def Nh(a:Nat):(ES a).Ok prog cx 104:=by
 induction a with
 |zero=>intro d e ⟨f,_,b⟩;exact absurd b (Nat.not_lt_zero _)
 |succ a c=>exact OJ (a+1) (SC a c)
