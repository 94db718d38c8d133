/- Texts W06m to W06n. -/
import Derived.Test.YtmaeadedikngoaaGreatDoorA26
set_option linter.all false
set_option maxRecDepth 100000
set_option maxHeartbeats 8000000
namespace Go.Proofs.YtmaeadedikngoaaGreatDoor
noncomputable section
open Go Go.TI
attribute [-simp] List.map_take List.map_drop List.map_append fH fh ej Bool.not_or Bool.not_and
attribute [simp] fG fj
def qR:iq:=⟨ee×List Nat,λa=>[a.1.t,.str a.2],λa=>a.1.cells.length<=1000000,λa=> dG (sd (a.1.cells.map ig.name) a.2 0),λa c b=>by
 simp at b;rw[ee.inj b.1,b.2]⟩
def Pj:qR.Ok Tryz.prog cx 231:=by
 refine iC (tb:=⟨pt [],ht []⟩) fc fa (je 1049655 [] Tryz.func231) (λo=>o.1.cells.length+1) (by simp[qR]) (by simp[qR,Tryz.f231]) ?_;rintro⟨k,l⟩ hl b m;simp[qR]at hl m|-;obtain⟨p,c⟩:=m;simp[Tryz.f231,p];refine fI k.cells.length dB (λi b g=>ij 1 g/\g.get 0=some (dI 6 0 [k.t])/\dJ b 1 (.str l)/\dJ b 2 (.ptr 0 0 0 0)/\dJ b 5 (dG i)/\sd ((k.cells.drop i).map ig.name) l i=sd (k.cells.map ig.name) l 0) ?_ ?_ dB (by simp[c])
 ·rintro i b g n q ⟨j,f,c,h,d,a⟩;rw[aI n,aT,sd]at a;simp[f,c,h,d,n];refine em (λe=> ?_) (λe=> ?_)
  ·simp at e;rw[aq e]at a;simp[d,<-a,j.hp]
  ·simp at e;rw[ao e]at a;simp[f,c,h,d,q,a,j]
 ·rintro b g ⟨j,f,c,h,d,a⟩;simp[sd]at a;simp[f,h,d,<-a,j.hp]
def Lw{c:fN}(ht:c.p 231=some qR)(a:ee)(b:List Nat)(hl:a.cells.length<=1000000):rl Tryz.prog cx c 231 [a.t,.str b]=some (dG (sd (a.cells.map ig.name) b 0)):=iv ht Pj (a,b) hl
def qO:iq:=⟨List iF×List Nat,λa=>[sl (a.1.map iF.t),.str a.2],λa=>a.1.length<=1000000,λa=> dG (sd (a.1.map iF.name) a.2 0),λa c b=>by
 simp at b;rw[jy (λ_ _=>iF.inj) b.1,b.2]⟩
def OU:qO.Ok Tryz.prog cx 146:=by
 refine iC (tb:=⟨pt [],ht []⟩) fc fa (je 262707 [] Tryz.func146) (λm=>m.1.length+1) (by simp[qO]) (by simp[qO,Tryz.f146]) ?_;rintro⟨h,j⟩ hl c k;simp[qO]at hl k|-;obtain⟨b,d⟩:=k;simp[Tryz.f146];refine fI h.length dB (λg c i=>i=hE/\dJ c 0 (sl (h.map iF.t))/\dJ c 1 (.str j)/\dJ c 5 (dG g)/\sd ((h.drop g).map iF.name) j g=sd (h.map iF.name) j 0) ?_ ?_ dB (by simp[b,d])
 ·rintro g c i l n ⟨rfl,b,d,e,a⟩;rw[aI l,aT,sd]at a;simp[b,d,e,l];refine em (λf=> ?_) (λf=> ?_)
  ·simp at f;rw[aq f]at a;simp[e,<-a]
  ·simp at f;rw[ao f]at a;simp[b,d,e,n,a]
 ·rintro c i ⟨rfl,b,d,e,a⟩;simp[sd]at a;simp[b,e,<-a]
def Lv{c:fN}(ht:c.p 146=some qO)(a:List iF)(b:List Nat)(hl:a.length<=1000000):rl Tryz.prog cx c 146 [sl (a.map iF.t),.str b]=some (dG (sd (a.map iF.name) b 0)):=iv ht OU (a,b) hl
def tu(W:ee)(a:List (List Nat))(b:T)(c next:Int):List T:=
 [sl (W.cells.map ig.t),sl (W.ew.map iF.t),sl (W.gW.map iT.t),sl (W.ei.map T.str),sl (W.dM.map T.str),sl (W.iH.map iI.t),sl (a.map T.str),b,dG c,dG next]
structure Gn(W:ee)(L:List (List Nat))(n:Nat)(h:H)(g:Nat):Prop where
 ok:ij 0 h
 fp:∀b,Fp h g b->b<h.size
 ex:∃ver ov jg next,∃O:List fU,h.get g=some (dI 10 ver [.agg (tu W L ov jg next)])/\Gr h ov 6 (O.map fU.t)/\O.length=n
def Gn.lt{W:ee}{c:List (List Nat)}{e:Nat}{b:H}{a:Nat}(d:Gn W c e b a):a<b.size:=d.fp a (.inl rfl)
def Gn.same{W:ee}{f:List (List Nat)}{k:Nat}{c d:H}{b:Nat}(j:Gn W f k c b)(q:ij 0 d)(h:∀a,Fp c b a->d.get a=c.get a)(p:c.size<=d.size):Gn W f k d b:=by
 obtain⟨s,l,r,next,m,g,n,o⟩:=j.ex;have i:=h b (.inl rfl);exact⟨q,λa e=>by rw[iV i]at e;exact bG (j.fp a e) p,s,l,r,next,m,by rw[i];exact g,n.mono λa e=>h a (.inr ⟨_,g,l,by simp[fx,T.cells,tu],e⟩),o⟩
def Gn.cons{W:ee}{b:List (List Nat)}{e:Nat}{d:H}{c:Nat}(a:Gn W b e d c)(f:iY):Gn W b e (d.cons f) c:=
 a.same (a.ok.cons f) (λg h=>by rw[dW,ao (by have:=a.fp g h;omega)]) dC 
def Gn.hr{W:ee}{b:List (List Nat)}{e:Nat}{a:H}{c:Nat}(d:Gn W b e a c):Gn W b e (TI.hr a) c:=d.same d.ok.hr (λf _=>gF a f) (au _)
def Gn.out{W:ee}{b:List (List Nat)}{e:Nat}{h a:H}{c:Nat}(d:Gn W b e a c):Gn W b e (lM h a) c:=d.same (d.ok.out h) (λf _=>fQ h a f) (au _)
def Gn.HA{W:ee}{a:List (List Nat)}{h b f:Nat}{c:H}{d:T}{q next:Int}{g:List fU}(k:Gn W a h c b)(l:c.get b=some (dI 10 f [.agg (tu W a d q next)]))(gO:Gr c d 6 (g.map fU.t))(m:g.length=h)(e next':Int):
 Step b c (d8 c b (dI 10 (f+1) [.agg (tu W a d e next')]))/\Gn W a h (d8 c b (dI 10 (f+1) [.agg (tu W a d e next')])) b:=by
 obtain⟨i,n,o,p⟩:=Bi k.ok k.fp l (cells':=tu W a d e next') (λr j=>by
  simp[tu]at j|-;rcases j with rfl|rfl|rfl|rfl|rfl|rfl|rfl|rfl|rfl|rfl<;>simp) _ rfl
 exact⟨i,⟨i.ok.hp,i.ok.low,aw _⟩,n,f+1,d,e,next',g,o,p _ _ _ gO dF,m⟩
def Gn.app{W:ee}{b:List (List Nat)}{n a f:Nat}{c d:H}{h j:T}{e next:Int}{g:List fU}{x:fU}(o:Gn W b n c a)(k:c.get a=some (dI 10 f [.agg (tu W b h e next)]))(gO:Gr c h 6 (g.map fU.t))(r:g.length=n)(s:Bb c h 6 (g.map fU.t++[x.t]) j d):
 d.get a=some (dI 10 f [.agg (tu W b h e next)])/\ff c d a=true/\Step a c (d8 d a (dI 10 (f+1) [.agg (tu W b j e next)]))/\Gn W b (n+1) (d8 d a (dI 10 (f+1) [.agg (tu W b j e next)])) a:=by
 obtain⟨l,u⟩:=wB (i:=7) o.ok o.fp k rfl dF gO s.xt;obtain⟨m,p,q,v⟩:=u _ rfl;exact⟨l.trans k,fk l,m,⟨m.ok.hp,m.ok.low,aw _⟩,p,f+1,j,e,next,g++[x],by rw[dQ (l.trans k),aq rfl],by rw[List.map_append];exact q,by simp[r]⟩
def Gn.elem{W:ee}{k:List (List Nat)}{g c b d h:Nat}{f:Bool}{a:H}{e:List T}{i:Nat}{x:fU}(u:Gn W k g a c)(m:a.get b=some ⟨6,d,h,f,false,e⟩)(A:Fp a c b)(r:b≠c)
 (B:∃q n o next,∃j:List fU,a.get c=some (dI 10 q [.agg (tu W k n o next)])/\n= .arr b d 0 g false/\e.take g=j.map fU.t/\j.length=g/\i<g):
 Step c a (d8 a b ⟨6,d,h+1,f,false,e.set i x.t⟩)/\Gn W k g (d8 a b ⟨6,d,h+1,f,false,e.set i x.t⟩) c:=by
 obtain⟨q,n,o,next,j,y,rfl,z,l,C⟩:=B;have p:=Step.ZY u.ok m A r ⟨6,d,h+1,f,false,e.set i x.t⟩;have s:(d8 a b ⟨6,d,h+1,f,false,e.set i x.t⟩).get c=a.get c:=by rw[dQ m,ao (bm r)]
 refine⟨p,⟨p.ok.hp,p.ok.low,aw _⟩,λw v=>by rw[iV s]at v;rw[fV];exact u.fp w v,q,_,o,next,j.set i x,by rw[s];exact y,.inr ⟨b,d,h+1,f,e.set i x.t,by simp[l],by rw[dQ m,aq rfl],?_⟩,by simp[l]⟩;rw[aG,cS,l,List.take_set,z,bW]
structure Di where
 (W:ee) (L:List (List Nat)) (n g:Nat) (i:fU)
def uE(a:Di)(b:List T)(c:H):Prop:=b=[.ptr a.g 0 0 0,a.i.t]/\Gn a.W a.L a.n c a.g/\a.n<=100000000
def qS(a:Di)(e:List T)(c:H)(d:T)(b:H):Prop:=d= .tuple []/\Step a.g c b/\Gn a.W a.L (a.n+1) b a.g
def KQ:(jF Di uE qS).Ok Tryz.prog cx 96:=by
 refine jv (tb:=⟨pt [],ht []⟩) fc fa (je 11 [] Tryz.func96) (λ_ _=>5) (λd M h H=>by obtain⟨rfl,_⟩:=H;simp[Tryz.f96]) ?_;rintro⟨W,v,P,j,d⟩ _ h ⟨rfl,f,F⟩ S p;simp only at f F;simp at p;obtain⟨B,C⟩:=p;have O:=f.lt;have G:(j=h.size)=False:=dD;obtain⟨L,l,e,next,y,g,gO,D⟩:=f.ex;have k:=(f.hr.cons (dI 6 1 [fU.t ⟨d.op,d.a,d.b,d.c,d.n,e⟩]));have q:=k.cons (dI 6 0 [fU.t ⟨d.op,d.a,d.b,d.c,d.n,e⟩]);have K:=(Step.cons (w:=j) f.ok.hr f.lt (dI 6 1 [fU.t ⟨d.op,d.a,d.b,d.c,d.n,e⟩])).trans (Step.cons k.ok k.lt (dI 6 0 [fU.t ⟨d.op,d.a,d.b,d.c,d.n,e⟩]));have A:(((hr h).cons (dI 6 1 [fU.t ⟨d.op,d.a,d.b,d.c,d.n,e⟩])).cons (dI 6 0 [fU.t ⟨d.op,d.a,d.b,d.c,d.n,e⟩])).get j=some (dI 10 L [.agg (tu W v l e next)]):=by
  rw[dW,ao dD,dW,ao dD,gF];exact g
 have o:Gr (((hr h).cons (dI 6 1 [fU.t ⟨d.op,d.a,d.b,d.c,d.n,e⟩])).cons (dI 6 0 [fU.t ⟨d.op,d.a,d.b,d.c,d.n,e⟩])) l 6 (y.map fU.t):=gO.mono λm E=>by
  have:m<h.size:=f.fp m (.inr ⟨_,g,l,by simp[fx,T.cells,tu],E⟩);rw[dW,ao dD,dW,ao dD,gF]
 obtain⟨R,N,z,i⟩:=o.app (cx:=cx) q.ok (x:= .arr (h.size+1) 0 0 1 false) (xs:=[fU.t ⟨d.op,d.a,d.b,d.c,d.n,e⟩]) Lf rfl SH Lf rfl rfl dC (by rw[gH];simp) dC dC dD;obtain⟨r,Q,I,J⟩:=q.app A o D i;have s:=(K.trans I).out;have u:=J.out (h:=h);simp only[tu]at g r s u;simp[Tryz.f96,B,C,g,G,z,r,i.gr.im,i.gr.cells,ed];exact⟨rfl,s,u⟩
structure Kq where
 (W:ee) (L:List (List Nat)) (n g:Nat) (e:dX) (d:Int)
def okW(W:ee):Prop:=W.cells.length<=1000000/\W.ew.length<=1000000/\W.gW.length<=1000000/\W.ei.length<=1000000/\W.dM.length<=1000000/\∃a,a<W.cells.length/\sd (W.cells.map ig.name) [113] 0=a
def Fd(a:Kq)(b:List T)(c:H):Prop:=b=[.ptr a.g 0 0 0,a.e.t,dG a.d]/\Gn a.W a.L a.n c a.g/\okW a.W/\a.L.length<=1000000/\ME a.e/\a.n+a.e.w<=10000000
def aeP(W:ee)(e:List (List Nat))(d g b:Nat)(f c:H):Prop:=Step b f c/\∃a,d<a/\a<=d+g/\Gn W e a c b
def Bh(a:Kq)(f:List T)(b:H)(d:T)(c:H):Prop:=d= .tuple []/\aeP a.W a.L a.n a.e.w a.g b c
def ow{d:fN}{l:Nat}{W:ee}{e:List (List Nat)}{c a:Nat}{i:fU}{f:H}{m:af Oper}{j:aa Tmp}{k:List Oper}{o n:fX}{g:iO}(ht:d.h 96=some (jF Di uE qS))(r:Gn W e c f a)(q:c<=100000000)
 (p:∀b,Step a f b->Gn W e (c+1) b a->XK (some (.tuple [],b)) cx (qW Tryz.prog cx d) l m j k o n g):XK (hl Tryz.prog cx d 96 [.ptr a 0 0 0,i.t] f) cx (qW Tryz.prog cx d) l m j k o n g:=
 iu KQ ht ⟨W,e,c,a,i⟩ ⟨rfl,r,q⟩ (by rintro _ b ⟨rfl,u,s⟩;exact p b u s)
def abu{e:fN}{p:Nat}{W:ee}{f:List (List Nat)}{d a:Nat}{l:fU}{b:H}{r:af Oper}{i:List (Nat×Nat)}{j:aa Tmp}{q:Op}{n:List Oper}{m:Nat}{o:List (Nat×Nat)}{k:List (Nat×H×H)}{u s:fX}{g:iO}(ht:e.h 96=some (jF Di uE qS))(x:Gn W f d b a)(w:d<=100000000)
 (v:∀c,Step a b c->Gn W f (d+1) c a->Rb (some (.tuple [],c)) cx (qW Tryz.prog cx e) p r i j q n m o k u s b g):Rb (hl Tryz.prog cx e 96 [.ptr a 0 0 0,l.t] b) cx (qW Tryz.prog cx e) p r i j q n m o k u s b g:=
 kZ KQ ht ⟨W,f,d,a,l⟩ ⟨rfl,x,w⟩ (by rintro _ c ⟨rfl,z,y⟩;exact v c z y)
def Nt(c:Nat)(E:(jF Kq (λf a b=>Fd f a b/\f.e.w<c) Bh).Ok Tryz.prog cx 198):(jF Kq (λf a b=>Fd f a b/\f.e.w<c+1) Bh).Ok Tryz.prog cx 198:=by
 refine jv (tb:=⟨pt [(110,Bf),(231,qR)],ht [(96,jF Di uE qS),(198,jF Kq (λf a b=>Fd f a b/\f.e.w<c) Bh)]⟩) fc fa (je 20282409606012871684182924853463 [] Tryz.func198) (λ_ _=>5) (λf a b al=>by obtain⟨⟨rfl,_⟩,_⟩:=al;simp[Tryz.f198]) ?_;rintro⟨W,s,q,v,u,I⟩ _ b ⟨⟨rfl,c,k,y,hE,Y⟩,U⟩ bz l;simp only at c k y hE Y U;simp at l;obtain⟨d,P,i⟩:=l;obtain⟨m,V,X⟩:=k.2.2.2.2.2;have a6:=c.lt;have L:(v=b.size)=False:=dD;obtain⟨bs,bi,bn,next,O,B,gO,aE⟩:=c.ex;simp only[tu]at B;have o:=c.hr.cons (dI 4 0 [u.t]);have l1:=Lb.new c.hr.lt c.hr.fp (dI 4 0 [u.t]);have r:=Step.cons c.ok.hr c.hr.lt (dI 4 0 [u.t]);have N:=λ{tb:fN} (b:tb.p 110=some Bf) H=>Nr b s H dB;have J:=λ{tb:fN} (b:tb.p 231=some qR) H=>Lw b W H k.1;have aX:=u.lr;simp[Tryz.f198,P];cases hE with
 |num a=>
  simp[d,i];refine ow dC o dB λx h g=> ?_;simp;exact⟨rfl,(r.trans h).out,q+1,dE,dE,g.out⟩
 |nm a=>
  simp[d,B,L,N];refine em (λT=> ?_) (λT=> ?_)
  ·simp[d,i];refine ow dC o dB λx h g=> ?_;simp;exact⟨rfl,(r.trans h).out,q+1,dE,dE,g.out⟩
  ·simp[d,i,B,L,J];refine ow dC o dB λx h g=> ?_;simp;exact⟨rfl,(r.trans h).out,q+1,dE,dE,g.out⟩
 | @ix a l=>
  have R:(dX.mk 3 0 [113] [a]).w=1+a.w:=by rw[dX.lr];simp[dX.j9,dX.iQ]
  simp[d,i];refine iu E dC ⟨W,s,q,v,a,I⟩ ⟨⟨rfl,o,k,y,l,dE⟩,dE⟩ ?_;rintro _ Q ⟨rfl,j,F,C,D,n⟩;simp only at j C D n;have l2:=l1.step j;obtain⟨bu,bk,bp,a8,ap,K,av,aN⟩:=n.ex;simp only[tu,nV]at K l2;simp[d,i,K,l2.get,J,X,V];refine ow dC n dB λx h g=> ?_;simp;exact⟨rfl,((r.trans j).trans h).out,F+1,dE,dE,g.out⟩
 | @bin z a A a7 l S=>
  have R:(dX.mk z 0 [] [a,A]).w=1+a.w+A.w:=by rw[dX.lr];simp[dX.j9,dX.iQ];omega
  simp[d,i,show¬z=1 by omega,show¬z=2 by omega,show¬z=3 by omega];refine iu E dC ⟨W,s,q,v,a,I⟩ ⟨⟨rfl,o,k,y,l,dE⟩,dE⟩ ?_;rintro _ Q ⟨rfl,j,F,C,D,n⟩;simp only at j C D n;have l2:=l1.step j;simp only[nV]at l2;simp[d,i,l2.get,oh];refine iu E dC ⟨W,s,F,v,A,_⟩ ⟨⟨rfl,n,k,y,S,dE⟩,dE⟩ ?_;rintro _ aA ⟨rfl,G,an,Z,ae,M⟩;simp only at G Z ae M;have l3:=l2.step G;simp[d,i,l3.get,oh];refine ow dC M dB λx h g=> ?_;simp;exact⟨rfl,(((r.trans j).trans G).trans h).out,an+1,dE,dE,g.out⟩
abbrev N3:kU:=jF Kq (λa b c=>Fd a b c/\a.e.w<10000001) Bh
def RM:N3.Ok Tryz.prog cx 198:=wQ (λa:Kq=>a.e.w) Nt 10000001
def Io{g:fN}{n:Nat}{W:ee}{f:List (List Nat)}{d b:Nat}{a:dX}{k:Int}{i:H}{o:af Oper}{l:aa Tmp}{m:List Oper}{q p:fX}{j:iO}(ht:g.h 198=some N3)(y:Gn W f d i b)(u:okW W)(s:f.length<=1000000)(v:ME a)(x:d+a.w<=10000000)
 (r:∀c e,Step b i c->d<e->e<=d+a.w->Gn W f e c b->XK (some (.tuple [],c)) cx (qW Tryz.prog cx g) n o l m q p j):XK (hl Tryz.prog cx g 198 [.ptr b 0 0 0,a.t,dG k] i) cx (qW Tryz.prog cx g) n o l m q p j:=
 iu RM ht ⟨W,f,d,b,a,k⟩ ⟨⟨rfl,y,u,s,v,x⟩,dE⟩ (by rintro _ c ⟨rfl,C,e,z,A,B⟩;exact r c e C z A B)
structure Xp where
 (W:ee) (L:List (List Nat)) (n g:Nat) (s:dR)
def B3(a:Xp)(b:List T)(c:H):Prop:=b=[.ptr a.g 0 0 0,a.s.t]/\Gn a.W a.L a.n c a.g/\okW a.W/\a.L.length<=1000000/\MS a.s/\a.n+a.s.w<=10000000
def xI(a:Xp)(f:List T)(d:H)(e:T)(c:H):Prop:=e= .tuple []/\Step a.g d c/\∃b,a.n<=b/\b<=a.n+a.s.w/\Gn a.W a.L b c a.g
def Ju:(jF Xp (λv y a=>B3 v y a/\v.s.op=1) xI).Ok Tryz.prog cx 194:=by
 refine jv (tb:=⟨pt [(110,Bf),(231,qR)],ht [(96,jF Di uE qS),(198,N3)]⟩) fc fa (je 36893488147419136123 [] Tryz.func194) (λ_ _=>5) (λv y a V=>by obtain⟨⟨rfl,_⟩,_⟩:=V;simp[Tryz.f194]) ?_;rintro⟨W,H,n,K,j⟩ _ a ⟨⟨rfl,c,e,o,q,T⟩,u⟩ bp C;simp only at c e o q T u;simp at C;obtain⟨b,M⟩:=C;obtain⟨m,R,S⟩:=e.2.2.2.2.2;have a6:=c.lt;have U:(K=a.size)=False:=dD;obtain⟨bn,a7,bk,next,O,A,gO,aX⟩:=c.ex;simp only[tu]at A;have E:=c.hr.cons (dI 11 0 [j.t]);have l1:=Lb.new c.hr.lt c.hr.fp (dI 11 0 [j.t]);have x:=Step.cons c.ok.hr c.hr.lt (dI 11 0 [j.t]);have J:=λ{tb:fN} (a:tb.p 110=some Bf) l=>Nr a H l dB;have z:=λ{tb:fN} (a:tb.p 231=some qR) l=>Lw a W l e.1;have Y:=j.lr;have D:=q.ex (.inl u);simp[Tryz.f194,b,M,A,U];cases g:j.index with
 |cons l r=>
  have X:=q.arr u (by rw[g];simp);have Z:=q.ind l (by rw[g];simp);rw[g,dX.j9]at Y;simp[b,g];refine Io dC E e o Z dB λN w f ap av h=> ?_;have l2:=l1.step f;simp only[nV]at l2;simp[b,l2.get,oh];refine Io dC h e o D dB λaN ae G a8 bi F=> ?_;have l3:=l2.step G;obtain⟨aE,an,aA,al,I,d,L,P⟩:=F.ex;simp only[tu]at d;simp[b,l3.get,d,z,X,S,R,oh];refine ow dC F dB λB k i=> ?_;simp;exact⟨rfl,(((x.trans f).trans G).trans k).out,ae+1,dE,dE,i.out⟩
 |nil=>
  simp[b,g];refine Io dC E e o D dB λN w f ap av h=> ?_;have l2:=l1.step f;simp only[nV]at l2;obtain⟨aE,an,aA,al,I,d,L,P⟩:=h.ex;simp only[tu]at d;simp[b,l2.get,d,J];refine em (λQ=> ?_) (λQ=> ?_)
  ·simp[b];refine ow dC h dB λB k i=> ?_;simp;exact⟨rfl,((x.trans f).trans k).out,w+1,dE,dE,i.out⟩
  ·simp[b,l2.get,d,z];refine ow dC h dB λB k i=> ?_;simp;exact⟨rfl,((x.trans f).trans k).out,w+1,dE,dE,i.out⟩
def Fc:kU:=⟨λd a=>∃W c f b h,d=[.ptr b 0 0 0,.str h]/\Gn W c f a b/\okW W,λ_ a g e=>e=a/\EL g⟩
def Pe:Fc.Ok Tryz.prog cx 197:=by
 refine IK (tb:=⟨pt [],ht []⟩) fc fa (je 67117107 [] Tryz.func197) false (λ_ _=>1000005) (λt f q=>by obtain⟨W,l,r,i,k,rfl,_⟩:=q;simp[Tryz.f197]) ?_;rintro _ f ⟨W,l,r,i,k,rfl,e,m⟩ b j;simp at j;obtain⟨a,c⟩:=j;obtain⟨y,w,x,next,s,g,gO,u⟩:=e.ex;simp only[tu]at g;have hl:=m.2.2.1;simp[Tryz.f197];refine fI W.gW.length dB (λe b h=>h=hr f/\dJ b 0 (.ptr i 0 0 0)/\dJ b 1 (.str k)/\dJ b 5 (dG e)) ?_ ?_ dB (by simp[a,c])
 ·rintro v b h p n ⟨rfl,a,c,d⟩;simp[a,c,d,g,p];refine em (λo=> ?_) (λo=> ?_)
  ·simp[d];exact qf f _ _ e.ok.hp (Fr.refl _ _) rfl ⟨rfl,dC⟩
  ·simp[a,c,d,n]
 ·rintro b h ⟨rfl,a,c,d⟩;simp[a,d,g];exact qf f _ _ e.ok.hp (Fr.refl _ _) rfl ⟨rfl,dC⟩
def Gn.opn{W:ee}{r:List (List Nat)}{a:Nat}{j:H}{h:Nat}(u:Gn W r a j h)(x:0<a):∃p o next,∃b:List fU,∃c g q k f,j.get h=some (dI 10 p [.agg (tu W r (.arr c g 0 a false) o next)])/\j.get c=some ⟨6,g,q,k,false,f⟩/\c≠h/\Fp j h c/\f.take a=b.map fU.t/\b.length=a/\∀e,e<a->∃w:fU,f[e]? =some w.t:=by
 obtain⟨p,y,o,next,b,i,gO,n⟩:=u.ex;rcases gO with⟨_,d⟩|⟨c,g,q,k,f,rfl,d,m⟩
 ·simp at d;subst d;simp at n;omega
 rw[aG,n]at i m;refine⟨p,o,next,b,c,g,q,k,f,i,d,λv=>by subst v;rw[i]at d;simp at d,.inr ⟨_,i,.arr c g 0 a false,by simp[fx,T.cells,tu],rfl⟩,m,n,λe s=>⟨b[e],?_⟩⟩;have:(f.take a)[e]? =(b.map fU.t)[e]? :=by rw[m]
 rw[bM,aq s,aQ,aB (l:=b) dB]at this;exact this
def RG(W:ee)(e:List (List Nat))(d b g:Nat)(f c:H):Prop:=Step b f c/\∃a,d<=a/\a<=d+g/\Gn W e a c b
structure abM where
 (W:ee) (L:List (List Nat)) (n g:Nat) (l:List dR)
def Vq(a:abM)(b:List T)(c:H):Prop:=b=[.ptr a.g 0 0 0,sl (a.l.map dR.t)]/\Gn a.W a.L a.n c a.g/\okW a.W/\a.L.length<=1000000/\(∀d∈a.l,MS d)/\a.n+dR.ws a.l<=10000000
abbrev Du(e:Nat):kU:=jF abM (λa c b=>Vq a c b/\dR.ws a.l<e) (λa _ b f d=>f= .tuple []/\RG a.W a.L a.n a.g (dR.ws a.l) b d)
abbrev rSt(d:Nat):kU:=jF Xp (λa b c=>B3 a b c/\a.s.w<d) xI
def Lu{j:Nat}(z:(Du j).Ok Tryz.prog cx 95){g:fN}{n:Nat}{W:ee}{f:List (List Nat)}{d b:Nat}{a:List dR}{i:H}{o:af Oper}{l:aa Tmp}{m:List Oper}{q p:fX}{k:iO}(ht:g.h 95=some (Du j))(y:Gn W f d i b)(u:okW W)(s:f.length<=1000000)(x:∀D∈a,MS D)(w:d+dR.ws a<=10000000)(v:dR.ws a<j)
 (r:∀c e,Step b i c->d<=e->e<=d+dR.ws a->Gn W f e c b->XK (some (.tuple [],c)) cx (qW Tryz.prog cx g) n o l m q p k):XK (hl Tryz.prog cx g 95 [.ptr b 0 0 0,sl (a.map dR.t)] i) cx (qW Tryz.prog cx g) n o l m q p k:=
 iu z ht ⟨W,f,d,b,a⟩ ⟨⟨rfl,y,u,s,x,w⟩,v⟩ (by rintro _ c ⟨rfl,a,e,A,B,C⟩;exact r c e a A B C)
def AR(Y:Nat)(aE:(Du Y).Ok Tryz.prog cx 95):(jF Xp (λi a N=>(B3 i a N/\i.s.w<Y+1)/\(i.s.op=2\/i.s.op=3)) xI).Ok Tryz.prog cx 195:=by
 refine jv (tb:=⟨pt [],ht [(96,jF Di uE qS),(198,N3),(95,Du Y)]⟩) fc fa (je 590296373308659073275 [] Tryz.func195) (λ_ _=>5) (λi a N b8=>by obtain⟨⟨⟨rfl,_⟩,_⟩,_⟩:=b8;simp[Tryz.f195]) ?_;rintro⟨W,M,n,o,T⟩ _ N ⟨⟨⟨rfl,l,R,P,Q,b6⟩,bS⟩,aA⟩ eF av;simp only at l R P Q b6 aA bS;simp at av;obtain⟨g,bu⟩:=av;have ea:=l.lt;have b7:(o=N.size)=False:=dD;obtain⟨eB,eh,cX,next,O,al,gO,dv⟩:=l.ex;simp only[tu]at al;have b9:=l.hr.cons (dI 11 0 [T.t]);have l1:=Lb.new l.hr.lt l.hr.fp (dI 11 0 [T.t]);have c1:=Step.cons l.ok.hr l.hr.lt (dI 11 0 [T.t]);have eb:=T.lr;have bT:=Q.ex (by rcases aA with q|q<;>simp[q]);simp[Tryz.f195,g,bu,al,b7,gO.len (cx:=cx)];refine Io dC b9 R P bT dB λdi j a7 p1 p2 aN=> ?_;have l2:=l1.step a7;simp only[nV]at l2;obtain⟨eC,eo,eu,ec,c9,an,bn,bB⟩:=aN.ex;simp only[tu]at an;simp[g,an,bn.len (cx:=cx),bB];refine ow dC aN dB λdk a8 ca=> ?_;have l3:=l2.step a8;simp[g,l3.get];refine Lu aE dC ca R P Q.bd dB dB λbz e bi p3 p4 aX=> ?_;have l4:=l3.step bi;obtain⟨eD,er,ey,cy,dd,V,bp,bC⟩:=aX.ex;obtain⟨Z,A⟩:=aX.HA V bp bC cX cy;simp only[tu]at V Z A;have l5:=l4.step Z;have ae:=(((c1.trans a7).trans a8).trans bi).trans Z;simp[g,V,ed];generalize d8 bz o _=dm at*
 simp[l5.get];refine em (λX=> ?_) (λX=> ?_)
 ·simp[g];refine ow dC A dB λE U G=> ?_;obtain⟨J,I,H,B,z,C,K,D,L,d,f,r,p,v,F,u⟩:=G.opn dB;obtain⟨x,k⟩:=u j dB;have h:j<e+1:=dB;obtain⟨m,y⟩:=G.elem (i:=j) (x:=⟨x.op,x.a,((e+1:Nat):Int),x.c,x.n,x.jg⟩) f p r ⟨J,_,I,H,B,d,rfl,v,F,h⟩;simp only[tu]at d;simp[g,d,f,k,h];exact⟨rfl,((ae.trans U).trans (by simpa using m)).out,e+1,dE,dE,(by simpa using y:Gn W M (e+1) _ o).out⟩
 simp[l5.get];refine em (λX=> ?_) (λX=> ?_)
 ·simp[g];obtain⟨J,I,H,B,z,C,K,D,L,d,f,r,p,v,F,u⟩:=A.opn dB;obtain⟨x,k⟩:=u j dB;have h:j<e:=dB;obtain⟨m,y⟩:=A.elem (i:=j) (x:=⟨x.op,x.a,(e:Int),x.c,x.n,x.jg⟩) f p r ⟨J,_,I,H,B,d,rfl,v,F,h⟩;simp only[tu]at d;simp[g,d,f,k,h];exact⟨rfl,(ae.trans (by simpa using m)).out,e,dE,dE,(by simpa using y:Gn W M e _ o).out⟩
 obtain⟨eE,et,eA,ef,de,ap,bs,bH⟩:=A.ex;simp only[tu]at ap;simp[g,ap,bs.len (cx:=cx),bH];refine ow dC A dB λE U G=> ?_;have l6:=l5.step U;obtain⟨J,I,H,B,z,C,K,D,L,d,f,r,p,v,F,u⟩:=G.opn dB;obtain⟨x,k⟩:=u j dB;have h:j<e+1:=dB;obtain⟨m,y⟩:=G.elem (i:=j) (x:=⟨x.op,x.a,((e+1:Nat):Int),x.c,x.n,x.jg⟩) f p r ⟨J,_,I,H,B,d,rfl,v,F,h⟩;simp only[tu]at d;simp[g,d,f,k,h];replace m:Step o E (d8 E z ⟨6,C,K+1,D,false,L.set j (fU.t ⟨x.op,x.a,(e:Int)+1,x.c,x.n,x.jg⟩)⟩):=by simpa using m
 replace y:Gn W M (e+1) (d8 E z ⟨6,C,K+1,D,false,L.set j (fU.t ⟨x.op,x.a,(e:Int)+1,x.c,x.n,x.jg⟩)⟩) o:=by simpa using y
 have ce:=l6.step m;generalize d8 E z _=dn at*
 clear d f k;simp[ce.get];refine Lu aE dC y R P Q.el dB dB λds S c4 p5 p6 a6=> ?_;have GN:=((ae.trans U).trans m).trans c4;obtain⟨c7,cL,cp,bk,z,C,K,D,L,d,f,r,p,v,bN,u⟩:=a6.opn dB;obtain⟨x,k⟩:=u e dB;have h:e<S:=dB;obtain⟨c6,cb⟩:=a6.elem (i:=e) (x:=⟨x.op,(S:Int),x.b,x.c,x.n,x.jg⟩) f p r ⟨c7,_,cL,cp,bk,d,rfl,v,bN,h⟩;simp only[tu]at d;simp[g,d,f,k,h];exact⟨rfl,(GN.trans (by simpa using c6)).out,S,dE,dE,(by simpa using cb:Gn W M S _ o).out⟩
structure IAr where
 (W:ee) (L:List (List Nat)) (n g:Nat) (s:dR) (a b o:Int)
def ut(j:Nat)(N:(Du j).Ok Tryz.prog cx 95):(jF IAr (λc A e=>A=[.ptr c.g 0 0 0,c.s.t,dG c.a,dG c.b,dG c.o]/\B3 ⟨c.W,c.L,c.n,c.g,c.s⟩ [.ptr c.g 0 0 0,c.s.t] e/\c.s.w<j+1) (λc _ e U D=>xI ⟨c.W,c.L,c.n,c.g,c.s⟩ [] e U D)).Ok Tryz.prog cx 196:=by
 refine jv (tb:=⟨pt [],ht [(96,jF Di uE qS),(95,Du j)]⟩) fc fa (je 1119 [] Tryz.func196) (λ_ _=>5) (λc z e M=>by obtain⟨rfl,_⟩:=M;simp[Tryz.f196]) ?_;rintro⟨W,L,n,B,f,z,b,o⟩ _ e ⟨rfl,⟨_,d,q,m,p,J⟩,I⟩ bi r;simp only at d q m p J I;simp at r;obtain⟨i,E,F,G,l⟩:=r;have aA:=d.lt;have K:(B=e.size)=False:=dD;obtain⟨a7,aN,V,next,O,k,gO,av⟩:=d.ex;simp only[tu]at k;have P:=d.hr.cons (dI 11 0 [f.t]);have l1:=Lb.new d.hr.lt d.hr.fp (dI 11 0 [f.t]);have X:=Step.cons d.ok.hr d.hr.lt (dI 11 0 [f.t]);have aE:=f.lr;simp[Tryz.f196,i,E,F,l,k,K];refine ow dC P dB λal x Q=> ?_;have l3:=l1.step x;simp only[nV]at l3;simp[i,l3.get];refine Lu N dC Q q m p.bd dB dB λan S Y p3 p4 u=> ?_;obtain⟨a8,aX,a6,T,ae,h,C,H⟩:=u.ex;obtain⟨y,v⟩:=u.HA h C H V T;simp only[tu]at h y v;simp[i,G,l,h,ed];refine ow dC v dB λap Z R=> ?_;simp;exact⟨rfl,((((X.trans x).trans Y).trans y).trans Z).out,S+1,dE,dE,R.out⟩
def NI(m:Nat)(E:(rSt m).Ok Tryz.prog cx 148):(Du m).Ok Tryz.prog cx 95:=by
 refine jv (tb:=⟨pt [],ht [(148,rSt m)]⟩) fc fa (je 275 [] Tryz.func95) (λ_ _=>10000005) (λc G r D=>by obtain⟨⟨rfl,_⟩,_⟩:=D;simp[Tryz.f95]) ?_;rintro⟨W,q,n,f,l⟩ _ r ⟨⟨rfl,j,v,s,u,C⟩,B⟩ d w;simp only at j v s u C B;simp at w;obtain⟨e,b⟩:=w;have hl:=dR.uN (l:=l);simp[Tryz.f95];refine fI l.length dB (λc d g=>Step f (hr r) g/\(∃a,n<=a/\a<=n+dR.ws (l.take c)/\Gn W q a g f)/\dJ d 0 (.ptr f 0 0 0)/\dJ d 1 (sl (l.map dR.t))/\dJ d 4 (dG c)) ?_ ?_ dB (by simp[e,b,Step.refl j.ok.hr];exact⟨n,au _,dB,j.hr⟩)
 ·rintro c d g i A ⟨p,⟨a,y,o,k⟩,e,b,h⟩;have K:=dR.E3 l i;have J:=dR.xw l (c+1);have I:=dR.vn (aC i);simp[e,b,h,i];refine iu E dC ⟨W,q,a,f,l[c]⟩ ⟨⟨rfl,k,v,s,u _ (aC i),dE⟩,dE⟩ ?_;rintro _ H ⟨rfl,z,F,p1,p2,x⟩;simp only at z p1 p2 x;simp[e,b,h,A];exact⟨p.trans z,F,dB,dB,x⟩
 ·rintro d g ⟨p,⟨a,y,o,k⟩,e,b,h⟩;rw[aL]at o;simp[b,h];exact⟨p.out,a,y,o,k.out⟩
def Rx(A:Nat)(K:(Du A).Ok Tryz.prog cx 95):(rSt (A+1)).Ok Tryz.prog cx 148:=by
 obtain⟨F,a6⟩:=hlI Pe (λ_ _ _ _ G=>G);refine jv (tb:=⟨pt [(110,Bf),(146,qO)],ht [(96,jF Di uE qS),(198,N3),(194,jF Xp (λe M i=>B3 e M i/\e.s.op=1) xI),(195,jF Xp (λe M i=>(B3 e M i/\e.s.w<A+1)/\(e.s.op=2\/e.s.op=3)) xI),
  (196,jF IAr (λe ap i=>ap=[.ptr e.g 0 0 0,e.s.t,dG e.a,dG e.b,dG e.o]/\B3 ⟨e.W,e.L,e.n,e.g,e.s⟩ [.ptr e.g 0 0 0,e.s.t] i/\e.s.w<A+1) (λe _ i r j=>xI ⟨e.W,e.L,e.n,e.g,e.s⟩ [] i r j)),(197,Fc)]⟩) fc fa (je 365376106316094180278949616271352870286206697499 [(11,[(1,9)]),(13,[(1,9)]),(15,[(1,9)]),(34,[(7,12),(7,14)])] Tryz.func148) (λ_ _=>5) (λe M i bi=>by obtain⟨⟨rfl,_⟩,_⟩:=bi;simp[Tryz.f148]) ?_
 rintro⟨W,B,k,y,l⟩ _ i ⟨⟨rfl,G,x,D,E,I⟩,J⟩ dv Y;simp only at G x D E I J;simp at Y;obtain⟨C,aX⟩:=Y;have ca:=G.lt;have cb:(y=i.size)=False:=dD;obtain⟨di,cL,c7,next,O,aA,gO,b7⟩:=G.ex;have ae:=G.hr.cons (dI 11 0 [l.t]);have l1:=Lb.new G.hr.lt G.hr.fp (dI 11 0 [l.t]);have bs:=Step.cons G.ok.hr G.hr.lt (dI 11 0 [l.t]);have ce:=l.lr;obtain⟨dk,cX,c9,an,bz,Q,aE,a7⟩:=ae.ex;obtain⟨T,S⟩:=ae.HA Q aE a7 an an;obtain⟨dm,c1,bp,bn,bB,R,aN,a8⟩:=S.ex;obtain⟨U,f⟩:=S.HA R aN a8 bp (IntKind.i64.wrap (bn+1));have l3:=(l1.step T).step U;simp only[tu,nV]at aA Q T S R U f l3;simp[Tryz.f148,C,aX,Q,ed,R,oh];have m:=(bs.trans T).trans U;have N:=λ{tb:fN} (ht:tb.h 197=some Fc) H=>a6 ht [.ptr y 0 0 0,.str H] _ ⟨W,B,k,y,H,rfl,f,x⟩;generalize d8 (d8 _ y _) y _=bT at*
 obtain⟨dn,c4,dd,cp,bC,z,bN,b8⟩:=f.ex;simp only[tu]at z;have av:=λ{tb:fN} (i:tb.p 110=some Bf) H=>Nr i B H dB;have eT:=λ{tb:fN} (i:tb.p 110=some Bf) H=>Nr i W.dM H (by have:=x.2.2.2.2.1;omega);have V:=λ{tb:fN} (i:tb.p 110=some Bf) H=>Nr i W.ei H (by have:=x.2.2.2.1;omega);have P:=λ{tb:fN} (i:tb.p 146=some qO) H=>Lv i W.ew H x.2.1;simp[z,l3.get]
 repeat' (refine em (λZ=> ?_) (λZ=> ?_)<;>simp[Z,C,l3.get])
 ·try simp[C,l3.get]
  refine iu Ju dC ⟨W,B,k,y,l⟩ ⟨⟨rfl,f,x,D,E,I⟩,by simpa using‹decide (l.op=1)=true›⟩ ?_;rintro _ j ⟨rfl,c,q,u,v,d⟩;simp;exact⟨rfl,(m.trans c).out,q,u,v,d.out⟩
 ·try simp[C,l3.get]
  refine iu (AR A K) dC ⟨W,B,k,y,l⟩ ⟨⟨⟨rfl,f,x,D,E,I⟩,J⟩,.inl (by simpa using‹decide (l.op=2)=true›)⟩ ?_;rintro _ j ⟨rfl,c,q,u,v,d⟩;simp;exact⟨rfl,(m.trans c).out,q,u,v,d.out⟩
 ·try simp[C,l3.get]
  refine iu (AR A K) dC ⟨W,B,k,y,l⟩ ⟨⟨⟨rfl,f,x,D,E,I⟩,J⟩,.inr (by simpa using‹decide (l.op=3)=true›)⟩ ?_;rintro _ j ⟨rfl,c,q,u,v,d⟩;simp;exact⟨rfl,(m.trans c).out,q,u,v,d.out⟩
 ·simp[l3.get,z,P];refine kZ (ut A K) dC ⟨W,B,k,y,l,11,12,_⟩ ⟨rfl,⟨rfl,f,x,D,E,I⟩,J⟩ ?_;rintro _ j ⟨rfl,c,q,u,v,d⟩;simp;exact⟨rfl,(m.trans c).out,q,u,v,d.out⟩
 ·simp[l3.get,z,P];refine kZ (ut A K) dC ⟨W,B,k,y,l,13,14,_⟩ ⟨rfl,⟨rfl,f,x,D,E,I⟩,J⟩ ?_;rintro _ j ⟨rfl,c,q,u,v,d⟩;simp;exact⟨rfl,(m.trans c).out,q,u,v,d.out⟩
 ·simp[l3.get,z,P];refine kZ (ut A K) dC ⟨W,B,k,y,l,15,16,_⟩ ⟨rfl,⟨rfl,f,x,D,E,I⟩,J⟩ ?_;rintro _ j ⟨rfl,c,q,u,v,d⟩;simp;exact⟨rfl,(m.trans c).out,q,u,v,d.out⟩
 ·try simp[C,l3.get,z]
  refine iu (ut A K) dC ⟨W,B,k,y,l,17,18,_⟩ ⟨rfl,⟨rfl,f,x,D,E,I⟩,J⟩ ?_;rintro _ j ⟨rfl,c,q,u,v,d⟩;simp;exact⟨rfl,(m.trans c).out,q,u,v,d.out⟩
 ·try simp[C,l3.get,z]
  refine iu (ut A K) dC ⟨W,B,k,y,l,19,20,_⟩ ⟨rfl,⟨rfl,f,x,D,E,I⟩,J⟩ ?_;rintro _ j ⟨rfl,c,q,u,v,d⟩;simp;exact⟨rfl,(m.trans c).out,q,u,v,d.out⟩
 ·simp[N];refine ow dC f dB λj c d=> ?_;simp;exact⟨rfl,(m.trans c).out,k+1,dE,dE,d.out⟩
 ·simp[N];refine ow dC f dB λj c d=> ?_;simp;exact⟨rfl,(m.trans c).out,k+1,dE,dE,d.out⟩
 ·simp[N];refine ow dC f dB λj c d=> ?_;simp;exact⟨rfl,(m.trans c).out,k+1,dE,dE,d.out⟩
 ·simp[l3.get,z,eT];refine ow dC f dB λj c d=> ?_;simp;exact⟨rfl,(m.trans c).out,k+1,dE,dE,d.out⟩
 ·simp[l3.get,z,eT];refine ow dC f dB λj c d=> ?_;simp;exact⟨rfl,(m.trans c).out,k+1,dE,dE,d.out⟩
 ·try simp[C,l3.get,z]
  refine Io dC f x D (E.ex (.inr (.inr (.inr (by simpa using‹decide (l.op=14)=true›))))) dB λb6 bk c p1 p2 al=> ?_;obtain⟨ds,c6,de,cy,bH,X,bS,b9⟩:=al.ex;simp only[tu]at X;simp[C,(l3.step c).get,X,V];refine ow dC al dB λj bu d=> ?_;simp;exact⟨rfl,((m.trans c).trans bu).out,bk+1,dE,dE,d.out⟩
 ·simp[C,l3.get,z,av,V];refine abu dC f dB λj c d=> ?_;simp;exact⟨rfl,(m.trans c).out,k+1,dE,dE,d.out⟩
 ·exact⟨rfl,m.out,k,au _,dE,f.out⟩
def Mh(a:Nat):(Du a).Ok Tryz.prog cx 95:=by
 induction a with
 |zero=>intro d e ⟨f,_,b⟩;exact absurd b (Nat.not_lt_zero _)
 |succ a c=>exact NI (a+1) (Rx a c)
end
end Go.Proofs.YtmaeadedikngoaaGreatDoor
