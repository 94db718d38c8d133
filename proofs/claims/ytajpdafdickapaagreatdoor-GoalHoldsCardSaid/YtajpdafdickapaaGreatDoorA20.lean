/- W06m -/
import Derived.Test.YtajpdafdickapaaGreatDoorA19
set_option linter.all false
set_option maxRecDepth 100000
set_option maxHeartbeats 8000000
namespace Go.Proofs.YtajpdafdickapaaGreatDoor
noncomputable section
open Go Go.TI Tryz
attribute [-simp] List.map_take List.map_drop List.map_append fw eY eg Bool.not_or Bool.not_and
attribute [simp] fq eZ
def tj:fP:=⟨dZ×List Nat,λa=>[a.1.t,.str a.2],λa=>a.1.cells.length<=1000000,λa=> Z (sN (a.1.cells.map io.name) a.2 0),λa c b=>by
 simp at b;rw[dZ.inj b.1,b.2]⟩
def Rc:tj.Ok prog cx 237:=by
 refine fM [] (iQ 1049655 [] func237) (λo=>o.1.cells.length+1) (by simp[tj]) ?_;rintro⟨k,l⟩ hl b m;simp[tj]at hl m|-;obtain⟨p,c⟩:=m;simp[f237,p];refine fk k.cells.length J (λi b g=>hU 1 g/\g.get 0=some (dE 6 0 [k.t])/\dF b 1 (.str l)/\dF b 2 (.ptr 0 0 0 0)/\dF b 5 (Z i)/\sN ((k.cells.drop i).map io.name) l i=sN (k.cells.map io.name) l 0) ?_ ?_ J (by simp[c])
 ·rintro i b g n q ⟨j,f,c,h,d,a⟩;rw[aH n,aP,sN]at a;simp[f,c,h,d,n];refine ee (λe=>?_) (λe=>?_)
  ·simp at e;rw[aq e]at a;simp[d,<-a,j.hp]
  ·simp at e;rw[ao e]at a;simp[f,c,h,d,q,a,j]
 ·rintro b g ⟨j,f,c,h,d,a⟩;simp[sN]at a;simp[f,h,d,<-a,j.hp]
def M0{c:fy}(ht:c.p 237=some tj)(a:dZ)(b:List Nat)(hl:a.cells.length<=1000000):rl prog cx c 237 [a.t,.str b]=some (Z (sN (a.cells.map io.name) b 0)):=gu ht Rc (a,b) hl
def sZ:fP:=⟨List iI×List Nat,λa=>[sl (a.1.map iI.t),.str a.2],λa=>a.1.length<=1000000,λa=> Z (sN (a.1.map iI.name) a.2 0),λa c b=>by
 simp at b;rw[jz (λ_ _=>iI.inj) b.1,b.2]⟩
def QN:sZ.Ok prog cx 153:=by
 refine fM [] (iQ 262707 [] func153) (λm=>m.1.length+1) (by simp[sZ]) ?_;rintro⟨h,j⟩ hl c k;simp[sZ]at hl k|-;obtain⟨b,d⟩:=k;simp[f153];refine fk h.length J (λg c i=>i=hE/\dF c 0 (sl (h.map iI.t))/\dF c 1 (.str j)/\dF c 5 (Z g)/\sN ((h.drop g).map iI.name) j g=sN (h.map iI.name) j 0) ?_ ?_ J (by simp[b,d])
 ·rintro g c i l n ⟨rfl,b,d,e,a⟩;rw[aH l,aP,sN]at a;simp[b,d,e,l];refine ee (λf=>?_) (λf=>?_)
  ·simp at f;rw[aq f]at a;simp[e,<-a]
  ·simp at f;rw[ao f]at a;simp[b,d,e,n,a]
 ·rintro c i ⟨rfl,b,d,e,a⟩;simp[sN]at a;simp[b,e,<-a]
def MX{c:fy}(ht:c.p 153=some sZ)(a:List iI)(b:List Nat)(hl:a.length<=1000000):rl prog cx c 153 [sl (a.map iI.t),.str b]=some (Z (sN (a.map iI.name) b 0)):=gu ht QN (a,b) hl
def tV(W:dZ)(a:List (List Nat))(b:T)(c next:Int):List T:=
 [sl (W.cells.map io.t),sl (W.ei.map iI.t),sl (W.gJ.map jb.t),sl (W.d8.map T.str),sl (W.dH.map T.str),sl (W.iJ.map iK.t),sl (a.map T.str),b,Z c,Z next]
structure Gn(W:dZ)(L:List (List Nat))(n:Nat)(h:H)(g:Nat):Prop where
 ok:hU 0 h
 fp:∀b,Fp h g b->b<h.size
 ex:∃ver ov ji next,∃O:List fR,h.get g=some (dE 10 ver [.agg (tV W L ov ji next)])/\Gr h ov 6 (O.map fR.t)/\O.length=n
def Gn.lt{W:dZ}{c:List (List Nat)}{e:Nat}{b:H}{a:Nat}(d:Gn W c e b a):a<b.size:=d.fp a (.inl rfl)
def Gn.same{W:dZ}{f:List (List Nat)}{k:Nat}{c d:H}{b:Nat}(j:Gn W f k c b)(q:hU 0 d)(h:∀a,Fp c b a->d.get a=c.get a)(p:c.size<=d.size):Gn W f k d b:=by
 obtain⟨s,l,r,next,m,g,n,o⟩:=j.ex;have i:=h b (.inl rfl);exact⟨q,λa e=>by rw[iT i]at e;exact bD (j.fp a e) p,s,l,r,next,m,by rw[i];exact g,n.mono λa e=>h a (.inr ⟨_,g,l,by simp[fF,T.cells,tV],e⟩),o⟩
theorem Gn.cons{W:dZ}{b:List (List Nat)}{e:Nat}{d:H}{c:Nat}(a:Gn W b e d c)(f:iX):Gn W b e (d.cons f) c:=
 a.same (a.ok.cons f) (λg h=>by rw[dT,ao (by have:=a.fp g h;omega)]) dy 
def Gn.hr{W:dZ}{b:List (List Nat)}{e:Nat}{a:H}{c:Nat}(d:Gn W b e a c):Gn W b e (TI.hr a) c:=d.same d.ok.hr (λf _=>gU a f) (au _)
def Gn.out{W:dZ}{b:List (List Nat)}{e:Nat}{h a:H}{c:Nat}(d:Gn W b e a c):Gn W b e (lO h a) c:=d.same (d.ok.out h) (λf _=>fW h a f) (au _)
def Gn.IQ{W:dZ}{a:List (List Nat)}{h b f:Nat}{c:H}{d:T}{q next:Int}{g:List fR}(k:Gn W a h c b)(l:c.get b=some (dE 10 f [.agg (tV W a d q next)]))(gO:Gr c d 6 (g.map fR.t))(m:g.length=h)(e next':Int):
 Step b c (dY c b (dE 10 (f+1) [.agg (tV W a d e next')]))/\Gn W a h (dY c b (dE 10 (f+1) [.agg (tV W a d e next')])) b:=by
 obtain⟨i,n,o,p⟩:=Ci k.ok k.fp l (cells':=tV W a d e next') (λr j=>by
  simp[tV]at j|-;rcases j with rfl|rfl|rfl|rfl|rfl|rfl|rfl|rfl|rfl|rfl<;>simp) _ rfl
 exact⟨i,⟨i.ok.hp,i.ok.low,aw _⟩,n,f+1,d,e,next',g,o,p _ _ _ gO dB,m⟩
def Gn.app{W:dZ}{b:List (List Nat)}{n a f:Nat}{c d:H}{h j:T}{e next:Int}{g:List fR}{x:fR}(o:Gn W b n c a)(k:c.get a=some (dE 10 f [.agg (tV W b h e next)]))(gO:Gr c h 6 (g.map fR.t))(r:g.length=n)(s:Cb c h 6 (g.map fR.t++[x.t]) j d):
 d.get a=some (dE 10 f [.agg (tV W b h e next)])/\fh c d a=true/\Step a c (dY d a (dE 10 (f+1) [.agg (tV W b j e next)]))/\Gn W b (n+1) (dY d a (dE 10 (f+1) [.agg (tV W b j e next)])) a:=by
 obtain⟨l,u⟩:=xy (i:=7) o.ok o.fp k rfl dB gO s.xt;obtain⟨m,p,q,v⟩:=u _ rfl;exact⟨l.trans k,fD l,m,⟨m.ok.hp,m.ok.low,aw _⟩,p,f+1,j,e,next,g++[x],by rw[dN (l.trans k),aq rfl],by rw[List.map_append];exact q,by simp[r]⟩
def Gn.elem{W:dZ}{k:List (List Nat)}{g c b d h:Nat}{f:Bool}{a:H}{e:List T}{i:Nat}{x:fR}(u:Gn W k g a c)(m:a.get b=some ⟨6,d,h,f,false,e⟩)(A:Fp a c b)(r:b≠c)
 (B:∃q n o next,∃j:List fR,a.get c=some (dE 10 q [.agg (tV W k n o next)])/\n= .arr b d 0 g false/\e.take g=j.map fR.t/\j.length=g/\i<g):
 Step c a (dY a b ⟨6,d,h+1,f,false,e.set i x.t⟩)/\Gn W k g (dY a b ⟨6,d,h+1,f,false,e.set i x.t⟩) c:=by
 obtain⟨q,n,o,next,j,y,rfl,z,l,C⟩:=B;have p:=Step.abG u.ok m A r ⟨6,d,h+1,f,false,e.set i x.t⟩;have s:(dY a b ⟨6,d,h+1,f,false,e.set i x.t⟩).get c=a.get c:=by rw[dN m,ao (bm r)]
 refine⟨p,⟨p.ok.hp,p.ok.low,aw _⟩,λw v=>by rw[iT s]at v;rw[fJ];exact u.fp w v,q,_,o,next,j.set i x,by rw[s];exact y,.inr ⟨b,d,h+1,f,e.set i x.t,by simp[l],by rw[dN m,aq rfl],?_⟩,by simp[l]⟩;rw[aG,cU,l,List.take_set,z,bA]
structure Es where
 (W:dZ) (L:List (List Nat)) (n g:Nat) (i:fR)
def u6(a:Es)(b:List T)(c:H):Prop:=b=[.ptr a.g 0 0 0,a.i.t]/\Gn a.W a.L a.n c a.g/\a.n<=100000000
def rL(a:Es)(e:List T)(c:H)(d:T)(b:H):Prop:=d= .tuple []/\Step a.g c b/\Gn a.W a.L (a.n+1) b a.g
def Mc:(jI Es u6 rL).Ok prog cx 105:=by
 refine jx (tb:=⟨pt [],ht []⟩) iL iB (iQ 11 [] func105) (λ_ _=>5) (λd N h H=>by obtain⟨rfl,_⟩:=H;simp[f105]) ?_;rintro⟨W,v,Q,j,d⟩ _ h ⟨rfl,f,F⟩ U p;simp only at f F;simp at p;obtain⟨B,C⟩:=p;have P:=f.lt;have G:(j=h.size)=False:=dz;obtain⟨M,l,e,next,y,g,gO,D⟩:=f.ex;have k:=(f.hr.cons (dE 6 1 [fR.t ⟨d.op,d.a,d.b,d.c,d.n,e⟩]));have q:=k.cons (dE 6 0 [fR.t ⟨d.op,d.a,d.b,d.c,d.n,e⟩]);have L:=(Step.cons (w:=j) f.ok.hr f.lt (dE 6 1 [fR.t ⟨d.op,d.a,d.b,d.c,d.n,e⟩])).trans (Step.cons k.ok k.lt (dE 6 0 [fR.t ⟨d.op,d.a,d.b,d.c,d.n,e⟩]));have A:(((hr h).cons (dE 6 1 [fR.t ⟨d.op,d.a,d.b,d.c,d.n,e⟩])).cons (dE 6 0 [fR.t ⟨d.op,d.a,d.b,d.c,d.n,e⟩])).get j=some (dE 10 M [.agg (tV W v l e next)]):=by
  rw[dT,ao dz,dT,ao dz,gU];exact g
 have o:Gr (((hr h).cons (dE 6 1 [fR.t ⟨d.op,d.a,d.b,d.c,d.n,e⟩])).cons (dE 6 0 [fR.t ⟨d.op,d.a,d.b,d.c,d.n,e⟩])) l 6 (y.map fR.t):=gO.mono λm E=>by
  have:m<h.size:=f.fp m (.inr ⟨_,g,l,by simp[fF,T.cells,tV],E⟩);rw[dT,ao dz,dT,ao dz,gU]
 obtain⟨S,O,z,i⟩:=o.app (cx:=cx) q.ok (x:= .arr (h.size+1) 0 0 1 false) (xs:=[fR.t ⟨d.op,d.a,d.b,d.c,d.n,e⟩]) MH rfl UP MH rfl rfl dy (by rw[ik];simp) dy dy dz;obtain⟨r,R,I,K⟩:=q.app A o D i;have s:=(L.trans I).out;have u:=K.out (h:=h);simp only[tV]at g r s u;simp[f105,B,C,g,G,z,r,i.gr.ir,i.gr.cells,dX];exact⟨rfl,s,u⟩
structure LI where
 (W:dZ) (L:List (List Nat)) (n g:Nat) (e:dV) (d:Int)
def okW(W:dZ):Prop:=W.cells.length<=1000000/\W.ei.length<=1000000/\W.gJ.length<=1000000/\W.d8.length<=1000000/\W.dH.length<=1000000/\∃a,a<W.cells.length/\sN (W.cells.map io.name) [113] 0=a
def GC(a:LI)(b:List T)(c:H):Prop:=b=[.ptr a.g 0 0 0,a.e.t,Z a.d]/\Gn a.W a.L a.n c a.g/\okW a.W/\a.L.length<=1000000/\ME a.e/\a.n+a.e.w<=10000000
def agB(W:dZ)(e:List (List Nat))(d g b:Nat)(f c:H):Prop:=Step b f c/\∃a,d<a/\a<=d+g/\Gn W e a c b
def Ch(a:LI)(f:List T)(b:H)(d:T)(c:H):Prop:=d= .tuple []/\agB a.W a.L a.n a.e.w a.g b c
def oX{d:fy}{l:Nat}{W:dZ}{e:List (List Nat)}{c a:Nat}{i:fR}{f:H}{m:af Oper}{j:aa Tmp}{k:List Oper}{o n:fZ}{g:iR}(ht:d.h 105=some (jI Es u6 rL))(r:Gn W e c f a)(q:c<=100000000)
 (p:∀b,Step a f b->Gn W e (c+1) b a->XK (some (.tuple [],b)) cx (rx prog cx d) l m j k o n g):XK (hl prog cx d 105 [.ptr a 0 0 0,i.t] f) cx (rx prog cx d) l m j k o n g:=
 iy Mc ht ⟨W,e,c,a,i⟩ ⟨rfl,r,q⟩ (by rintro _ b ⟨rfl,u,s⟩;exact p b u s)
def adi{e:fy}{p:Nat}{W:dZ}{f:List (List Nat)}{d a:Nat}{l:fR}{b:H}{r:af Oper}{i:List (Nat×Nat)}{j:aa Tmp}{q:Op}{n:List Oper}{m:Nat}{o:List (Nat×Nat)}{k:List (Nat×H×H)}{u s:fZ}{g:iR}(ht:e.h 105=some (jI Es u6 rL))(x:Gn W f d b a)(w:d<=100000000)
 (v:∀c,Step a b c->Gn W f (d+1) c a->Tk (some (.tuple [],c)) cx (rx prog cx e) p r i j q n m o k u s b g):Tk (hl prog cx e 105 [.ptr a 0 0 0,l.t] b) cx (rx prog cx e) p r i j q n m o k u s b g:=
 mo Mc ht ⟨W,f,d,a,l⟩ ⟨rfl,x,w⟩ (by rintro _ c ⟨rfl,z,y⟩;exact v c z y)
def Ph(c:Nat)(E:(jI LI (λf a b=>GC f a b/\f.e.w<c) Ch).Ok prog cx 200):(jI LI (λf a b=>GC f a b/\f.e.w<c+1) Ch).Ok prog cx 200:=by
 refine jx (tb:=⟨pt [(130,C4),(237,tj)],ht [(105,jI Es u6 rL),(200,jI LI (λf a b=>GC f a b/\f.e.w<c) Ch)]⟩) iL iB (iQ 20282409606012871684182924853463 [] func200) (λ_ _=>5) (λf a b ap=>by obtain⟨⟨rfl,_⟩,_⟩:=ap;simp[f200]) ?_;rintro⟨W,s,q,v,u,I⟩ _ b ⟨⟨rfl,c,k,y,hE,ae⟩,V⟩ bS l;simp only at c k y hE ae V;simp at l;obtain⟨d,Q,i⟩:=l;obtain⟨m,X,Y⟩:=k.2.2.2.2.2;have a8:=c.lt;have M:(v=b.size)=False:=dz;obtain⟨bH,bs,bB,next,O,B,gO,aX⟩:=c.ex;simp only[tV]at B;have o:=c.hr.cons (dE 4 0 [u.t]);have l1:=Lb.new c.hr.lt c.hr.fp (dE 4 0 [u.t]);have r:=Step.cons c.ok.hr c.hr.lt (dE 4 0 [u.t]);have P:=λ{tb:fy} (b:tb.p 130=some C4) H=>Pe b s H J;have K:=λ{tb:fy} (b:tb.p 237=some tj) H=>M0 b W H k.1;have a7:=u.lI;simp[f200,Q];cases hE with
 |num a=>
  simp[d,i];refine oX dy o J λx h g=>?_;simp;exact⟨rfl,(r.trans h).out,q+1,dA,dA,g.out⟩
 |nm a=>
  simp[d,B,M,P];refine ee (λU=>?_) (λU=>?_)
  ·simp[d,i];refine oX dy o J λx h g=>?_;simp;exact⟨rfl,(r.trans h).out,q+1,dA,dA,g.out⟩
  ·simp[d,i,B,M,K];refine oX dy o J λx h g=>?_;simp;exact⟨rfl,(r.trans h).out,q+1,dA,dA,g.out⟩
 | @ix a l=>
  have S:(dV.mk 3 0 [113] [a]).w=1+a.w:=by rw[dV.lI];simp[dV.ke,dV.iW]
  simp[d,i];refine iy E dy ⟨W,s,q,v,a,I⟩ ⟨⟨rfl,o,k,y,l,dA⟩,dA⟩ ?_;rintro _ R ⟨rfl,j,F,C,D,n⟩;simp only at j C D n;have l2:=l1.step j;obtain⟨bN,bu,bC,bn,aA,L,aE,a6⟩:=n.ex;simp only[tV,oz]at L l2;simp[d,i,L,l2.get,K,Y,X];refine oX dy n J λx h g=>?_;simp;exact⟨rfl,((r.trans j).trans h).out,F+1,dA,dA,g.out⟩
 | @bin z a A bi l T=>
  have S:(dV.mk z 0 [] [a,A]).w=1+a.w+A.w:=by rw[dV.lI];simp[dV.ke,dV.iW];omega
  simp[d,i,show¬z=1 by omega,show¬z=2 by omega,show¬z=3 by omega];refine iy E dy ⟨W,s,q,v,a,I⟩ ⟨⟨rfl,o,k,y,l,dA⟩,dA⟩ ?_;rintro _ R ⟨rfl,j,F,C,D,n⟩;simp only at j C D n;have l2:=l1.step j;simp only[oz]at l2;simp[d,i,l2.get,oN];refine iy E dy ⟨W,s,F,v,A,_⟩ ⟨⟨rfl,n,k,y,T,dA⟩,dA⟩ ?_;rintro _ aN ⟨rfl,G,av,al,an,N⟩;simp only at G al an N;have l3:=l2.step G;simp[d,i,l3.get,oN];refine oX dy N J λx h g=>?_;simp;exact⟨rfl,(((r.trans j).trans G).trans h).out,av+1,dA,dA,g.out⟩
abbrev PN:li:=jI LI (λa b c=>GC a b c/\a.e.w<10000001) Ch
def T6:PN.Ok prog cx 200:=xP (λa:LI=>a.e.w) Ph 10000001
def JF{g:fy}{n:Nat}{W:dZ}{f:List (List Nat)}{d b:Nat}{a:dV}{k:Int}{i:H}{o:af Oper}{l:aa Tmp}{m:List Oper}{q p:fZ}{j:iR}(ht:g.h 200=some PN)(y:Gn W f d i b)(u:okW W)(s:f.length<=1000000)(v:ME a)(x:d+a.w<=10000000)
 (r:∀c e,Step b i c->d<e->e<=d+a.w->Gn W f e c b->XK (some (.tuple [],c)) cx (rx prog cx g) n o l m q p j):XK (hl prog cx g 200 [.ptr b 0 0 0,a.t,Z k] i) cx (rx prog cx g) n o l m q p j:=
 iy T6 ht ⟨W,f,d,b,a,k⟩ ⟨⟨rfl,y,u,s,v,x⟩,dA⟩ (by rintro _ c ⟨rfl,C,e,z,A,B⟩;exact r c e C z A B)
structure Zj where
 (W:dZ) (L:List (List Nat)) (n g:Nat) (s:dO)
def Db(a:Zj)(b:List T)(c:H):Prop:=b=[.ptr a.g 0 0 0,a.s.t]/\Gn a.W a.L a.n c a.g/\okW a.W/\a.L.length<=1000000/\MS a.s/\a.n+a.s.w<=10000000
def yx(a:Zj)(f:List T)(d:H)(e:T)(c:H):Prop:=e= .tuple []/\Step a.g d c/\∃b,a.n<=b/\b<=a.n+a.s.w/\Gn a.W a.L b c a.g
def KP:(jI Zj (λv y a=>Db v y a/\v.s.op=1) yx).Ok prog cx 196:=by
 refine jx (tb:=⟨pt [(130,C4),(237,tj)],ht [(105,jI Es u6 rL),(200,PN)]⟩) iL iB (iQ 36893488147419136123 [] func196) (λ_ _=>5) (λv y a X=>by obtain⟨⟨rfl,_⟩,_⟩:=X;simp[f196]) ?_;rintro⟨W,H,n,L,j⟩ _ a ⟨⟨rfl,c,e,o,q,U⟩,u⟩ bC C;simp only at c e o q U u;simp at C;obtain⟨b,N⟩:=C;obtain⟨m,S,T⟩:=e.2.2.2.2.2;have a8:=c.lt;have V:(L=a.size)=False:=dz;obtain⟨bB,bi,bu,next,O,A,gO,a7⟩:=c.ex;simp only[tV]at A;have E:=c.hr.cons (dE 11 0 [j.t]);have l1:=Lb.new c.hr.lt c.hr.fp (dE 11 0 [j.t]);have x:=Step.cons c.ok.hr c.hr.lt (dE 11 0 [j.t]);have K:=λ{tb:fy} (a:tb.p 130=some C4) l=>Pe a H l J;have z:=λ{tb:fy} (a:tb.p 237=some tj) l=>M0 a W l e.1;have ae:=j.lI;have D:=q.ex (.inl u);simp[f196,b,N,A,V];cases g:j.index with
 |cons l r=>
  have Y:=q.arr u (by rw[g];simp);have al:=q.ind l (by rw[g];simp);rw[g,dV.ke]at ae;simp[b,g];refine JF dy E e o al J λP w f aA aE h=>?_;have l2:=l1.step f;simp only[oz]at l2;simp[b,l2.get,oN];refine JF dy h e o D J λa6 an G bn bs F=>?_;have l3:=l2.step G;obtain⟨aX,av,aN,ap,I,d,M,Q⟩:=F.ex;simp only[tV]at d;simp[b,l3.get,d,z,Y,T,S,oN];refine oX dy F J λB k i=>?_;simp;exact⟨rfl,(((x.trans f).trans G).trans k).out,an+1,dA,dA,i.out⟩
 |nil=>
  simp[b,g];refine JF dy E e o D J λP w f aA aE h=>?_;have l2:=l1.step f;simp only[oz]at l2;obtain⟨aX,av,aN,ap,I,d,M,Q⟩:=h.ex;simp only[tV]at d;simp[b,l2.get,d,K];refine ee (λR=>?_) (λR=>?_)
  ·simp[b];refine oX dy h J λB k i=>?_;simp;exact⟨rfl,((x.trans f).trans k).out,w+1,dA,dA,i.out⟩
  ·simp[b,l2.get,d,z];refine oX dy h J λB k i=>?_;simp;exact⟨rfl,((x.trans f).trans k).out,w+1,dA,dA,i.out⟩
def GA:li:=⟨λd a=>∃W c f b h,d=[.ptr b 0 0 0,.str h]/\Gn W c f a b/\okW W,λ_ a g e=>e=a/\F0 g⟩
def Q7:GA.Ok prog cx 199:=by
 refine J6 (tb:=⟨pt [],ht []⟩) iL iB (iQ 67117107 [] func199) false (λ_ _=>1000005) (λt f q=>by obtain⟨W,l,r,i,k,rfl,_⟩:=q;simp[f199]) ?_;rintro _ f ⟨W,l,r,i,k,rfl,e,m⟩ b j;simp at j;obtain⟨a,c⟩:=j;obtain⟨y,w,x,next,s,g,gO,u⟩:=e.ex;simp only[tV]at g;have hl:=m.2.2.1;simp[f199];refine fk W.gJ.length J (λe b h=>h=hr f/\dF b 0 (.ptr i 0 0 0)/\dF b 1 (.str k)/\dF b 5 (Z e)) ?_ ?_ J (by simp[a,c])
 ·rintro v b h p n ⟨rfl,a,c,d⟩;simp[a,c,d,g,p];refine ee (λo=>?_) (λo=>?_)
  ·simp[d];exact qK f _ _ e.ok.hp (Fr.refl _ _) rfl ⟨rfl,dy⟩
  ·simp[a,c,d,n]
 ·rintro b h ⟨rfl,a,c,d⟩;simp[a,d,g];exact qK f _ _ e.ok.hp (Fr.refl _ _) rfl ⟨rfl,dy⟩
def Gn.opn{W:dZ}{r:List (List Nat)}{a:Nat}{j:H}{h:Nat}(u:Gn W r a j h)(x:0<a):∃p o next,∃b:List fR,∃c g q k f,j.get h=some (dE 10 p [.agg (tV W r (.arr c g 0 a false) o next)])/\j.get c=some ⟨6,g,q,k,false,f⟩/\c≠h/\Fp j h c/\f.take a=b.map fR.t/\b.length=a/\∀e,e<a->∃w:fR,f[e]? =some w.t:=by
 obtain⟨p,y,o,next,b,i,gO,n⟩:=u.ex;rcases gO with⟨_,d⟩|⟨c,g,q,k,f,rfl,d,m⟩
 ·simp at d;subst d;simp at n;omega
 rw[aG,n]at i m;refine⟨p,o,next,b,c,g,q,k,f,i,d,λv=>by subst v;rw[i]at d;simp at d,.inr ⟨_,i,.arr c g 0 a false,by simp[fF,T.cells,tV],rfl⟩,m,n,λe s=>⟨b[e],?_⟩⟩;have:(f.take a)[e]? =(b.map fR.t)[e]? :=by rw[m]
 rw[cG,aq s,aW,az (l:=b) J]at this;exact this
def T0(W:dZ)(e:List (List Nat))(d b g:Nat)(f c:H):Prop:=Step b f c/\∃a,d<=a/\a<=d+g/\Gn W e a c b
structure adE where
 (W:dZ) (L:List (List Nat)) (n g:Nat) (l:List dO)
def XB(a:adE)(b:List T)(c:H):Prop:=b=[.ptr a.g 0 0 0,sl (a.l.map dO.t)]/\Gn a.W a.L a.n c a.g/\okW a.W/\a.L.length<=1000000/\(∀d∈a.l,MS d)/\a.n+dO.ws a.l<=10000000
abbrev EE(e:Nat):li:=jI adE (λa c b=>XB a c b/\dO.ws a.l<e) (λa _ b f d=>f= .tuple []/\T0 a.W a.L a.n a.g (dO.ws a.l) b d)
abbrev rSt(d:Nat):li:=jI Zj (λa b c=>Db a b c/\a.s.w<d) yx
def MV{j:Nat}(z:(EE j).Ok prog cx 104){g:fy}{n:Nat}{W:dZ}{f:List (List Nat)}{d b:Nat}{a:List dO}{i:H}{o:af Oper}{l:aa Tmp}{m:List Oper}{q p:fZ}{k:iR}(ht:g.h 104=some (EE j))(y:Gn W f d i b)(u:okW W)(s:f.length<=1000000)(x:∀D∈a,MS D)(w:d+dO.ws a<=10000000)(v:dO.ws a<j)
 (r:∀c e,Step b i c->d<=e->e<=d+dO.ws a->Gn W f e c b->XK (some (.tuple [],c)) cx (rx prog cx g) n o l m q p k):XK (hl prog cx g 104 [.ptr b 0 0 0,sl (a.map dO.t)] i) cx (rx prog cx g) n o l m q p k:=
 iy z ht ⟨W,f,d,b,a⟩ ⟨⟨rfl,y,u,s,x,w⟩,v⟩ (by rintro _ c ⟨rfl,a,e,A,B,C⟩;exact r c e a A B C)
def BR(ae:Nat)(aX:(EE ae).Ok prog cx 104):(jI Zj (λi a P=>(Db i a P/\i.s.w<ae+1)/\(i.s.op=2\/i.s.op=3)) yx).Ok prog cx 197:=by
 refine jx (tb:=⟨pt [],ht [(105,jI Es u6 rL),(200,PN),(104,EE ae)]⟩) iL iB (iQ 590296373308659073275 [] func197) (λ_ _=>5) (λi a P cp=>by obtain⟨⟨⟨rfl,_⟩,_⟩,_⟩:=cp;simp[f197]) ?_;rintro⟨W,N,n,o,U⟩ _ P ⟨⟨⟨rfl,l,S,Q,R,ca⟩,b8⟩,aN⟩ eO aE;simp only at l S Q R ca aN b8;simp at aE;obtain⟨g,bN⟩:=aE;have er:=l.lt;have cb:(o=P.size)=False:=dz;obtain⟨eI,eA,dd,next,O,ap,gO,eo⟩:=l.ex;simp only[tV]at ap;have cy:=l.hr.cons (dE 11 0 [U.t]);have l1:=Lb.new l.hr.lt l.hr.fp (dE 11 0 [U.t]);have de:=Step.cons l.ok.hr l.hr.lt (dE 11 0 [U.t]);have et:=U.lI;have b9:=R.ex (by rcases aN with q|q<;>simp[q]);simp[f197,g,bN,ap,cb,gO.len (cx:=cx)];refine JF dy cy S Q b9 J λea j bi p1 p2 a6=>?_;have l2:=l1.step bi;simp only[oz]at l2;obtain⟨eL,eB,eE,eu,dn,av,bB,bT⟩:=a6.ex;simp only[tV]at av;simp[g,av,bB.len (cx:=cx),bT];refine oX dy a6 J λeb bn cL=>?_;have l3:=l2.step bn;simp[g,l3.get];refine MV aX dy cL S Q R.bd J J λbS e bs p3 p4 a7=>?_;have l4:=l3.step bs;obtain⟨eM,eC,eF,c7,ds,X,bC,bX⟩:=a7.ex;obtain⟨al,A⟩:=a7.IQ X bC bX dd c7;simp only[tV]at X al A;have l5:=l4.step al;have an:=(((de.trans bi).trans bn).trans bs).trans al;simp[g,X,dX];generalize dY bS o _=ec at*
 simp[l5.get];refine ee (λY=>?_) (λY=>?_)
 ·simp[g];refine oX dy A J λE V G=>?_;obtain⟨K,I,H,B,z,C,L,D,M,d,f,r,p,v,F,u⟩:=G.opn J;obtain⟨x,k⟩:=u j J;have h:j<e+1:=J;obtain⟨m,y⟩:=G.elem (i:=j) (x:=⟨x.op,x.a,((e+1:Nat):Int),x.c,x.n,x.ji⟩) f p r ⟨K,_,I,H,B,d,rfl,v,F,h⟩;simp only[tV]at d;simp[g,d,f,k,h];exact⟨rfl,((an.trans V).trans (by simpa using m)).out,e+1,dA,dA,(by simpa using y:Gn W N (e+1) _ o).out⟩
 simp[l5.get];refine ee (λY=>?_) (λY=>?_)
 ·simp[g];obtain⟨K,I,H,B,z,C,L,D,M,d,f,r,p,v,F,u⟩:=A.opn J;obtain⟨x,k⟩:=u j J;have h:j<e:=J;obtain⟨m,y⟩:=A.elem (i:=j) (x:=⟨x.op,x.a,(e:Int),x.c,x.n,x.ji⟩) f p r ⟨K,_,I,H,B,d,rfl,v,F,h⟩;simp only[tV]at d;simp[g,d,f,k,h];exact⟨rfl,(an.trans (by simpa using m)).out,e,dA,dA,(by simpa using y:Gn W N e _ o).out⟩
 obtain⟨eN,eD,eH,ey,dv,aA,bH,b6⟩:=A.ex;simp only[tV]at aA;simp[g,aA,bH.len (cx:=cx),b6];refine oX dy A J λE V G=>?_;have l6:=l5.step V;obtain⟨K,I,H,B,z,C,L,D,M,d,f,r,p,v,F,u⟩:=G.opn J;obtain⟨x,k⟩:=u j J;have h:j<e+1:=J;obtain⟨m,y⟩:=G.elem (i:=j) (x:=⟨x.op,x.a,((e+1:Nat):Int),x.c,x.n,x.ji⟩) f p r ⟨K,_,I,H,B,d,rfl,v,F,h⟩;simp only[tV]at d;simp[g,d,f,k,h];replace m:Step o E (dY E z ⟨6,C,L+1,D,false,M.set j (fR.t ⟨x.op,x.a,(e:Int)+1,x.c,x.n,x.ji⟩)⟩):=by simpa using m
 replace y:Gn W N (e+1) (dY E z ⟨6,C,L+1,D,false,M.set j (fR.t ⟨x.op,x.a,(e:Int)+1,x.c,x.n,x.ji⟩)⟩) o:=by simpa using y
 have c4:=l6.step m;generalize dY E z _=ef at*
 clear d f k;simp[c4.get];refine MV aX dy y S Q R.el J J λeh T di p5 p6 a8=>?_;have Ie:=((an.trans V).trans m).trans di;obtain⟨dm,c9,c6,bu,z,C,L,D,M,d,f,r,p,v,b7,u⟩:=a8.opn J;obtain⟨x,k⟩:=u e J;have h:e<T:=J;obtain⟨dk,c1⟩:=a8.elem (i:=e) (x:=⟨x.op,(T:Int),x.b,x.c,x.n,x.ji⟩) f p r ⟨dm,_,c9,c6,bu,d,rfl,v,b7,h⟩;simp only[tV]at d;simp[g,d,f,k,h];exact⟨rfl,(Ie.trans (by simpa using dk)).out,T,dA,dA,(by simpa using c1:Gn W N T _ o).out⟩
structure IAr where
 (W:dZ) (L:List (List Nat)) (n g:Nat) (s:dO) (a b o:Int)
def uS(j:Nat)(P:(EE j).Ok prog cx 104):(jI IAr (λc A e=>A=[.ptr c.g 0 0 0,c.s.t,Z c.a,Z c.b,Z c.o]/\Db ⟨c.W,c.L,c.n,c.g,c.s⟩ [.ptr c.g 0 0 0,c.s.t] e/\c.s.w<j+1) (λc _ e V D=>yx ⟨c.W,c.L,c.n,c.g,c.s⟩ [] e V D)).Ok prog cx 198:=by
 refine jx (tb:=⟨pt [],ht [(105,jI Es u6 rL),(104,EE j)]⟩) iL iB (iQ 1119 [] func198) (λ_ _=>5) (λc z e N=>by obtain⟨rfl,_⟩:=N;simp[f198]) ?_;rintro⟨W,L,n,B,f,z,b,o⟩ _ e ⟨rfl,⟨_,d,q,m,p,K⟩,I⟩ bs r;simp only at d q m p K I;simp at r;obtain⟨i,E,F,G,l⟩:=r;have aN:=d.lt;have M:(B=e.size)=False:=dz;obtain⟨bi,a6,X,next,O,k,gO,aE⟩:=d.ex;simp only[tV]at k;have Q:=d.hr.cons (dE 11 0 [f.t]);have l1:=Lb.new d.hr.lt d.hr.fp (dE 11 0 [f.t]);have Y:=Step.cons d.ok.hr d.hr.lt (dE 11 0 [f.t]);have aX:=f.lI;simp[f198,i,E,F,l,k,M];refine oX dy Q J λap x R=>?_;have l3:=l1.step x;simp only[oz]at l3;simp[i,l3.get];refine MV P dy R q m p.bd J J λav T ae p3 p4 u=>?_;obtain⟨bn,a7,a8,U,an,h,C,H⟩:=u.ex;obtain⟨y,v⟩:=u.IQ h C H X U;simp only[tV]at h y v;simp[i,G,l,h,dX];refine oX dy v J λaA al S=>?_;simp;exact⟨rfl,((((Y.trans x).trans ae).trans y).trans al).out,T+1,dA,dA,S.out⟩
def Pq(m:Nat)(E:(rSt m).Ok prog cx 155):(EE m).Ok prog cx 104:=by
 refine jx (tb:=⟨pt [],ht [(155,rSt m)]⟩) iL iB (iQ 275 [] func104) (λ_ _=>10000005) (λc G r D=>by obtain⟨⟨rfl,_⟩,_⟩:=D;simp[f104]) ?_;rintro⟨W,q,n,f,l⟩ _ r ⟨⟨rfl,j,v,s,u,C⟩,B⟩ d w;simp only at j v s u C B;simp at w;obtain⟨e,b⟩:=w;have hl:=dO.vk (l:=l);simp[f104];refine fk l.length J (λc d g=>Step f (hr r) g/\(∃a,n<=a/\a<=n+dO.ws (l.take c)/\Gn W q a g f)/\dF d 0 (.ptr f 0 0 0)/\dF d 1 (sl (l.map dO.t))/\dF d 4 (Z c)) ?_ ?_ J (by simp[e,b,Step.refl j.ok.hr];exact⟨n,au _,J,j.hr⟩)
 ·rintro c d g i A ⟨p,⟨a,y,o,k⟩,e,b,h⟩;have L:=dO.Gt l i;have K:=dO.yp l (c+1);have I:=dO.wa (aD i);simp[e,b,h,i];refine iy E dy ⟨W,q,a,f,l[c]⟩ ⟨⟨rfl,k,v,s,u _ (aD i),dA⟩,dA⟩ ?_;rintro _ H ⟨rfl,z,F,p1,p2,x⟩;simp only at z p1 p2 x;simp[e,b,h,A];exact⟨p.trans z,F,J,J,x⟩
 ·rintro d g ⟨p,⟨a,y,o,k⟩,e,b,h⟩;rw[aK]at o;simp[b,h];exact⟨p.out,a,y,o,k.out⟩
def TP(A:Nat)(M:(EE A).Ok prog cx 104):(rSt (A+1)).Ok prog cx 155:=by
 obtain⟨F,a8⟩:=hlI Q7 (λ_ _ _ _ G=>G);refine jx (tb:=⟨pt [(130,C4),(153,sZ)],ht [(105,jI Es u6 rL),(200,PN),(196,jI Zj (λe N i=>Db e N i/\e.s.op=1) yx),(197,jI Zj (λe N i=>(Db e N i/\e.s.w<A+1)/\(e.s.op=2\/e.s.op=3)) yx),
  (198,jI IAr (λe aA i=>aA=[.ptr e.g 0 0 0,e.s.t,Z e.a,Z e.b,Z e.o]/\Db ⟨e.W,e.L,e.n,e.g,e.s⟩ [.ptr e.g 0 0 0,e.s.t] i/\e.s.w<A+1) (λe _ i r j=>yx ⟨e.W,e.L,e.n,e.g,e.s⟩ [] i r j)),(199,GA)]⟩) iL iB (iQ 365376106316094180278949616271352870286206697499 [(11,[(1,9)]),(13,[(1,9)]),(15,[(1,9)]),(34,[(7,12),(7,14)])] func155) (λ_ _=>5) (λe N i bs=>by obtain⟨⟨rfl,_⟩,_⟩:=bs;simp[f155]) ?_
 rintro⟨W,B,k,y,l⟩ _ i ⟨⟨rfl,G,x,D,E,I⟩,K⟩ eo ae;simp only at G x D E I K;simp at ae;obtain⟨C,a7⟩:=ae;have cL:=G.lt;have c1:(y=i.size)=False:=dz;obtain⟨ea,c9,dm,next,O,aN,gO,cb⟩:=G.ex;have an:=G.hr.cons (dE 11 0 [l.t]);have l1:=Lb.new G.hr.lt G.hr.fp (dE 11 0 [l.t]);have bH:=Step.cons G.ok.hr G.hr.lt (dE 11 0 [l.t]);have c4:=l.lI;obtain⟨eb,dd,dn,av,bS,R,aX,bi⟩:=an.ex;obtain⟨U,T⟩:=an.IQ R aX bi av av;obtain⟨ec,de,bC,bB,bT,S,a6,bn⟩:=T.ex;obtain⟨V,f⟩:=T.IQ S a6 bn bC (IntKind.i64.wrap (bB+1));have l3:=(l1.step U).step V;simp only[tV,oz]at aN R U T S V f l3;simp[f155,C,a7,R,dX,S,oN];have m:=(bH.trans U).trans V;have P:=λ{tb:fy} (ht:tb.h 199=some GA) H=>a8 ht [.ptr y 0 0 0,.str H] _ ⟨W,B,k,y,H,rfl,f,x⟩;generalize dY (dY _ y _) y _=b9 at*
 obtain⟨ef,di,ds,c6,bX,z,b7,cp⟩:=f.ex;simp only[tV]at z;have aE:=λ{tb:fy} (i:tb.p 130=some C4) H=>Pe i B H J;have eT:=λ{tb:fy} (i:tb.p 130=some C4) H=>Pe i W.dH H (by have:=x.2.2.2.2.1;omega);have X:=λ{tb:fy} (i:tb.p 130=some C4) H=>Pe i W.d8 H (by have:=x.2.2.2.1;omega);have Q:=λ{tb:fy} (i:tb.p 153=some sZ) H=>MX i W.ei H x.2.1;simp[z,l3.get]
 repeat' (refine ee (λal=>?_) (λal=>?_)<;>simp[al,C,l3.get])
 ·try simp[C,l3.get]
  refine iy KP dy ⟨W,B,k,y,l⟩ ⟨⟨rfl,f,x,D,E,I⟩,by simpa using‹decide (l.op=1)=true›⟩ ?_;rintro _ j ⟨rfl,c,q,u,v,d⟩;simp;exact⟨rfl,(m.trans c).out,q,u,v,d.out⟩
 ·try simp[C,l3.get]
  refine iy (BR A M) dy ⟨W,B,k,y,l⟩ ⟨⟨⟨rfl,f,x,D,E,I⟩,K⟩,.inl (by simpa using‹decide (l.op=2)=true›)⟩ ?_;rintro _ j ⟨rfl,c,q,u,v,d⟩;simp;exact⟨rfl,(m.trans c).out,q,u,v,d.out⟩
 ·try simp[C,l3.get]
  refine iy (BR A M) dy ⟨W,B,k,y,l⟩ ⟨⟨⟨rfl,f,x,D,E,I⟩,K⟩,.inr (by simpa using‹decide (l.op=3)=true›)⟩ ?_;rintro _ j ⟨rfl,c,q,u,v,d⟩;simp;exact⟨rfl,(m.trans c).out,q,u,v,d.out⟩
 ·simp[l3.get,z,Q];refine mo (uS A M) dy ⟨W,B,k,y,l,11,12,_⟩ ⟨rfl,⟨rfl,f,x,D,E,I⟩,K⟩ ?_;rintro _ j ⟨rfl,c,q,u,v,d⟩;simp;exact⟨rfl,(m.trans c).out,q,u,v,d.out⟩
 ·simp[l3.get,z,Q];refine mo (uS A M) dy ⟨W,B,k,y,l,13,14,_⟩ ⟨rfl,⟨rfl,f,x,D,E,I⟩,K⟩ ?_;rintro _ j ⟨rfl,c,q,u,v,d⟩;simp;exact⟨rfl,(m.trans c).out,q,u,v,d.out⟩
 ·simp[l3.get,z,Q];refine mo (uS A M) dy ⟨W,B,k,y,l,15,16,_⟩ ⟨rfl,⟨rfl,f,x,D,E,I⟩,K⟩ ?_;rintro _ j ⟨rfl,c,q,u,v,d⟩;simp;exact⟨rfl,(m.trans c).out,q,u,v,d.out⟩
 ·try simp[C,l3.get,z]
  refine iy (uS A M) dy ⟨W,B,k,y,l,17,18,_⟩ ⟨rfl,⟨rfl,f,x,D,E,I⟩,K⟩ ?_;rintro _ j ⟨rfl,c,q,u,v,d⟩;simp;exact⟨rfl,(m.trans c).out,q,u,v,d.out⟩
 ·try simp[C,l3.get,z]
  refine iy (uS A M) dy ⟨W,B,k,y,l,19,20,_⟩ ⟨rfl,⟨rfl,f,x,D,E,I⟩,K⟩ ?_;rintro _ j ⟨rfl,c,q,u,v,d⟩;simp;exact⟨rfl,(m.trans c).out,q,u,v,d.out⟩
 ·simp[P];refine oX dy f J λj c d=>?_;simp;exact⟨rfl,(m.trans c).out,k+1,dA,dA,d.out⟩
 ·simp[P];refine oX dy f J λj c d=>?_;simp;exact⟨rfl,(m.trans c).out,k+1,dA,dA,d.out⟩
 ·simp[P];refine oX dy f J λj c d=>?_;simp;exact⟨rfl,(m.trans c).out,k+1,dA,dA,d.out⟩
 ·simp[l3.get,z,eT];refine oX dy f J λj c d=>?_;simp;exact⟨rfl,(m.trans c).out,k+1,dA,dA,d.out⟩
 ·simp[l3.get,z,eT];refine oX dy f J λj c d=>?_;simp;exact⟨rfl,(m.trans c).out,k+1,dA,dA,d.out⟩
 ·try simp[C,l3.get,z]
  refine JF dy f x D (E.ex (.inr (.inr (.inr (by simpa using‹decide (l.op=14)=true›))))) J λca bu c p1 p2 ap=>?_;obtain⟨eh,dk,dv,c7,b6,Y,b8,cy⟩:=ap.ex;simp only[tV]at Y;simp[C,(l3.step c).get,Y,X];refine oX dy ap J λj bN d=>?_;simp;exact⟨rfl,((m.trans c).trans bN).out,bu+1,dA,dA,d.out⟩
 ·simp[C,l3.get,z,aE,X];refine adi dy f J λj c d=>?_;simp;exact⟨rfl,(m.trans c).out,k+1,dA,dA,d.out⟩
 ·exact⟨rfl,m.out,k,au _,dA,f.out⟩
def NT(a:Nat):(EE a).Ok prog cx 104:=by
 induction a with
 |zero=>intro d e ⟨f,_,b⟩;exact absurd b (Nat.not_lt_zero _)
 |succ a c=>exact Pq (a+1) (TP a c)
