/- W06m -/
import Derived.Test.YtbappgeamhmmbaaGreatDoorA21
import Derived.Test.YtbappgeamhmmbaaGreatDoorA9
set_option linter.all false
set_option maxRecDepth 100000
set_option maxHeartbeats 0
namespace Go.Proofs.YtbappgeamhmmbaaGreatDoor
noncomputable section
open Go Go.TI Tryz
attribute [-simp] List.map_take List.map_drop List.map_append fj ez TI.d8 Bool.not_or Bool.not_and
attribute [simp] fh eG
def rN:ge:=⟨dR×List Nat,λa=>[a.1.t,.str a.2],λa=>a.1.cells.length<=1000000,λa=> D (rm (a.1.cells.map fW.name) a.2 0),λa c b=>by
 simp at b;rw[dR.inj b.1,b.2]⟩
def Oe:rN.Ok prog cx 253:=by
 refine fR [] (iP 1049655 [] func253) (λo=>o.1.cells.length+1) (by simp[rN]) ?_;rintro⟨k,l⟩ hl c m;simp[rN]at hl m|-;obtain⟨p,b⟩:=m;simp[f253,p,b];refine fc k.cells.length B (λi c g=>gH 1 g/\g.get 0=some (Z 6 0 [k.t])/\dy c 1 (.str l)/\dy c 2 (.ptr 0 0 0 0)/\dy c 5 (D i)/\rm ((k.cells.drop i).map fW.name) l i=rm (k.cells.map fW.name) l 0) ?_ ?_ B (by simp[b])
 ·rintro i c g n q ⟨j,f,b,h,d,a⟩;rw[aH n,aP,rm]at a;simp[f,b,h,d,n];refine dV (λe=>?_) (λe=>?_)
  ·simp at e;rw[aq e]at a;simp[d,<-a,j.hp]
  ·simp at e;rw[ao e]at a;simp[f,b,h,d,q,a,j]
 ·rintro c g ⟨j,f,b,h,d,a⟩;simp[rm]at a;simp[f,b,h,d,<-a,j.hp]
def Kx{c:fw}(ht:c.p 253=some rN)(a:dR)(b:List Nat)(hl:a.cells.length<=1000000):rl prog cx c 253 [a.t,.str b]=some (D (rm (a.cells.map fW.name) b 0)):=gG ht Oe (a,b) hl
def rJ:ge:=⟨List ig×List Nat,λa=>[sl (a.1.map ig.t),.str a.2],λa=>a.1.length<=1000000,λa=> D (rm (a.1.map ig.name) a.2 0),λa c b=>by
 simp at b;rw[jt (λ_ _=>ig.inj) b.1,b.2]⟩
def NS:rJ.Ok prog cx 157:=by
 refine fR [] (iP 262707 [] func157) (λm=>m.1.length+1) (by simp[rJ]) ?_;rintro⟨h,j⟩ hl d k;simp[rJ]at hl k|-;obtain⟨b,c⟩:=k;simp[f157,b,c];refine fc h.length B (λg d i=>i=hE/\dy d 0 (sl (h.map ig.t))/\dy d 1 (.str j)/\dy d 5 (D g)/\rm ((h.drop g).map ig.name) j g=rm (h.map ig.name) j 0) ?_ ?_ B (by simp[b,c])
 ·rintro g d i l n ⟨rfl,b,c,e,a⟩;rw[aH l,aP,rm]at a;simp[b,c,e,l];refine dV (λf=>?_) (λf=>?_)
  ·simp at f;rw[aq f]at a;simp[e,<-a]
  ·simp at f;rw[ao f]at a;simp[b,c,e,n,a]
 ·rintro d i ⟨rfl,b,c,e,a⟩;simp[rm]at a;simp[b,c,e,<-a]
def Kv{c:fw}(ht:c.p 157=some rJ)(a:List ig)(b:List Nat)(hl:a.length<=1000000):rl prog cx c 157 [sl (a.map ig.t),.str b]=some (D (rm (a.map ig.name) b 0)):=gG ht NS (a,b) hl
def sq(W:dR)(a:List (List Nat))(b:T)(c next:Int):List T:=
 [sl (W.cells.map fW.t),sl (W.dW.map ig.t),sl (W.fV.map iA.t),sl (W.dU.map T.str),sl (W.dC.map T.str),sl (W.io.map ik.t),sl (a.map T.str),b,D c,D next]
structure Gn(W:dR)(L:List (List Nat))(n:Nat)(h:H)(g:Nat):Prop where
 ok:gH 0 h
 fp:∀b,Fp h g b->b<h.size
 ex:∃ver ov iQ next,∃O:List fD,h.get g=some (Z 10 ver [.agg (sq W L ov iQ next)])/\Gr h ov 6 (O.map fD.t)/\O.length=n
def Gn.lt{W:dR}{c:List (List Nat)}{e:Nat}{b:H}{a:Nat}(d:Gn W c e b a):a<b.size:=d.fp a (.inl rfl)
def Gn.same{W:dR}{f:List (List Nat)}{k:Nat}{c d:H}{b:Nat}(j:Gn W f k c b)(q:gH 0 d)(h:∀a,Fp c b a->d.get a=c.get a)(p:c.size<=d.size):Gn W f k d b:=by
 obtain⟨s,l,r,next,m,g,n,o⟩:=j.ex;have i:=h b (.inl rfl);exact⟨q,λa e=>by rw[iL i]at e;exact bp (j.fp a e) p,s,l,r,next,m,by rw[i];exact g,n.mono λa e=>h a (.inr ⟨_,g,l,by simp[eY,T.cells,sq],e⟩),o⟩
theorem Gn.cons{W:dR}{b:List (List Nat)}{e:Nat}{d:H}{c:Nat}(a:Gn W b e d c)(f:iI):Gn W b e (d.cons f) c:=
 a.same (a.ok.cons f) (λg h=>by rw[dO,ao (by have:=a.fp g h;omega)]) J 
def Gn.hr{W:dR}{b:List (List Nat)}{e:Nat}{a:H}{c:Nat}(d:Gn W b e a c):Gn W b e (TI.hr a) c:=d.same d.ok.hr (λf _=>gu a f) (au _)
def Gn.out{W:dR}{b:List (List Nat)}{e:Nat}{h a:H}{c:Nat}(d:Gn W b e a c):Gn W b e (lM h a) c:=d.same (d.ok.out h) (λf _=>fO h a f) (au _)
def Gn.Gv{W:dR}{a:List (List Nat)}{h b f:Nat}{c:H}{d:T}{q next:Int}{g:List fD}(k:Gn W a h c b)(l:c.get b=some (Z 10 f [.agg (sq W a d q next)]))(gO:Gr c d 6 (g.map fD.t))(m:g.length=h)(e next':Int):
 Step b c (dT c b (Z 10 (f+1) [.agg (sq W a d e next')]))/\Gn W a h (dT c b (Z 10 (f+1) [.agg (sq W a d e next')])) b:=by
 obtain⟨i,n,o,p⟩:=A3 k.ok k.fp l (cells':=sq W a d e next') (λr j=>by
  simp[sq]at j|-;rcases j with rfl|rfl|rfl|rfl|rfl|rfl|rfl|rfl|rfl|rfl<;>simp) _ rfl
 exact⟨i,⟨i.ok.hp,i.ok.low,aw _⟩,n,f+1,d,e,next',g,o,p _ _ _ gO dt,m⟩
def Gn.app{W:dR}{b:List (List Nat)}{n a f:Nat}{c d:H}{h j:T}{e next:Int}{g:List fD}{x:fD}(o:Gn W b n c a)(k:c.get a=some (Z 10 f [.agg (sq W b h e next)]))(gO:Gr c h 6 (g.map fD.t))(r:g.length=n)(s:AX c h 6 (g.map fD.t++[x.t]) j d):
 d.get a=some (Z 10 f [.agg (sq W b h e next)])/\em c d a=true/\Step a c (dT d a (Z 10 (f+1) [.agg (sq W b j e next)]))/\Gn W b (n+1) (dT d a (Z 10 (f+1) [.agg (sq W b j e next)])) a:=by
 obtain⟨l,u⟩:=v8 (i:=7) o.ok o.fp k rfl dt gO s.xt;obtain⟨m,p,q,v⟩:=u _ rfl;exact⟨l.trans k,eQ l,m,⟨m.ok.hp,m.ok.low,aw _⟩,p,f+1,j,e,next,g++[x],by rw[dF (l.trans k),aq rfl],by rw[List.map_append];exact q,by simp[r]⟩
def Gn.elem{W:dR}{k:List (List Nat)}{g c b d h:Nat}{f:Bool}{a:H}{e:List T}{i:Nat}{x:fD}(u:Gn W k g a c)(m:a.get b=some ⟨6,d,h,f,false,e⟩)(A:Fp a c b)(r:b≠c)
 (C:∃q n o next,∃j:List fD,a.get c=some (Z 10 q [.agg (sq W k n o next)])/\n= .arr b d 0 g false/\e.take g=j.map fD.t/\j.length=g/\i<g):
 Step c a (dT a b ⟨6,d,h+1,f,false,e.set i x.t⟩)/\Gn W k g (dT a b ⟨6,d,h+1,f,false,e.set i x.t⟩) c:=by
 obtain⟨q,n,o,next,j,y,rfl,z,l,E⟩:=C;have p:=Step.ZY u.ok m A r ⟨6,d,h+1,f,false,e.set i x.t⟩;have s:(dT a b ⟨6,d,h+1,f,false,e.set i x.t⟩).get c=a.get c:=by rw[dF m,ao (aW r)]
 refine⟨p,⟨p.ok.hp,p.ok.low,aw _⟩,λw v=>by rw[iL s]at v;rw[fI];exact u.fp w v,q,_,o,next,j.set i x,by rw[s];exact y,.inr ⟨b,d,h+1,f,e.set i x.t,by simp[l],by rw[dF m,aq rfl],?_⟩,by simp[l]⟩;rw[aG,cG,l,List.take_set,z,bO]
structure C3 where
 (W:dR) (L:List (List Nat)) (n g:Nat) (i:fD)
def tV(a:C3)(b:List T)(c:H):Prop:=b=[.ptr a.g 0 0 0,a.i.t]/\Gn a.W a.L a.n c a.g/\a.n<=100000000
def qh(a:C3)(e:List T)(c:H)(d:T)(b:H):Prop:=d= .tuple []/\Step a.g c b/\Gn a.W a.L (a.n+1) b a.g
def JP:(jr C3 tV qh).Ok prog cx 107:=by
 refine jn (tb:=⟨pt [],ht []⟩) iB gW (iP 11 [] func107) (λ_ _=>5) (λd Q h K=>by obtain⟨rfl,_⟩:=K;simp[f107]) ?_;rintro⟨W,v,U,j,d⟩ _ h ⟨rfl,f,H⟩ X p;simp only at f H;simp at p;obtain⟨C,E⟩:=p;have S:=f.lt;have I:(j=h.size)=False:=dp;obtain⟨P,l,e,next,y,g,gO,F⟩:=f.ex;have k:=(f.hr.cons (Z 6 1 [fD.t ⟨d.op,d.a,d.b,d.c,d.n,e⟩]));have q:=k.cons (Z 6 0 [fD.t ⟨d.op,d.a,d.b,d.c,d.n,e⟩]);have O:=(Step.cons (w:=j) f.ok.hr f.lt (Z 6 1 [fD.t ⟨d.op,d.a,d.b,d.c,d.n,e⟩])).trans (Step.cons k.ok k.lt (Z 6 0 [fD.t ⟨d.op,d.a,d.b,d.c,d.n,e⟩]));have A:(((hr h).cons (Z 6 1 [fD.t ⟨d.op,d.a,d.b,d.c,d.n,e⟩])).cons (Z 6 0 [fD.t ⟨d.op,d.a,d.b,d.c,d.n,e⟩])).get j=some (Z 10 P [.agg (sq W v l e next)]):=by
  rw[dO,ao dp,dO,ao dp,gu];exact g
 have o:Gr (((hr h).cons (Z 6 1 [fD.t ⟨d.op,d.a,d.b,d.c,d.n,e⟩])).cons (Z 6 0 [fD.t ⟨d.op,d.a,d.b,d.c,d.n,e⟩])) l 6 (y.map fD.t):=gO.mono λm G=>by
  have:m<h.size:=f.fp m (.inr ⟨_,g,l,by simp[eY,T.cells,sq],G⟩);rw[dO,ao dp,dO,ao dp,gu]
 obtain⟨V,R,z,i⟩:=o.app (cx:=cx) q.ok (x:= .arr (h.size+1) 0 0 1 false) (xs:=[fD.t ⟨d.op,d.a,d.b,d.c,d.n,e⟩]) Kg rfl Rv Kg rfl rfl J (by rw[gh];simp) J J dp;obtain⟨r,L,M,N⟩:=q.app A o F i;have s:=(O.trans M).out;have u:=N.out (h:=h);simp only[sq]at g r s u;simp[f107,C,E,g,I,z,r,L,i.gr.fg,i.gr.cells,dN];exact⟨rfl,s,u⟩
structure Jq where
 (W:dR) (L:List (List Nat)) (n g:Nat) (e:dL) (d:Int)
def okW(W:dR):Prop:=W.cells.length<=1000000/\W.dW.length<=1000000/\W.fV.length<=1000000/\W.dU.length<=1000000/\W.dC.length<=1000000/\∃a,a<W.cells.length/\rm (W.cells.map fW.name) [113] 0=a
def ED(a:Jq)(b:List T)(c:H):Prop:=b=[.ptr a.g 0 0 0,a.e.t,D a.d]/\Gn a.W a.L a.n c a.g/\okW a.W/\a.L.length<=1000000/\ME a.e/\a.n+a.e.w<=10000000
def agh(W:dR)(e:List (List Nat))(d g b:Nat)(f c:H):Prop:=Step b f c/\∃a,d<a/\a<=d+g/\Gn W e a c b
def A2(a:Jq)(f:List T)(b:H)(d:T)(c:H):Prop:=d= .tuple []/\agh a.W a.L a.n a.e.w a.g b c
def nO{d:fw}{l:Nat}{W:dR}{e:List (List Nat)}{c a:Nat}{i:fD}{f:H}{m:af Oper}{j:aa Tmp}{k:List Oper}{o n:fH}{g:iq}(ht:d.h 107=some (jr C3 tV qh))(r:Gn W e c f a)(q:c<=100000000)
 (p:∀b,Step a f b->Gn W e (c+1) b a->XK (some (.tuple [],b)) cx (pK prog cx d) l m j k o n g):XK (hl prog cx d 107 [.ptr a 0 0 0,i.t] f) cx (pK prog cx d) l m j k o n g:=
 iD JP ht ⟨W,e,c,a,i⟩ ⟨rfl,r,q⟩ (by rintro _ b ⟨rfl,u,s⟩;exact p b u s)
def abM{e:fw}{p:Nat}{W:dR}{f:List (List Nat)}{d a:Nat}{l:fD}{b:H}{r:af Oper}{i:List (Nat×Nat)}{j:aa Tmp}{q:Op}{n:List Oper}{m:Nat}{o:List (Nat×Nat)}{k:List (Nat×H×H)}{u s:fH}{g:iq}(ht:e.h 107=some (jr C3 tV qh))(x:Gn W f d b a)(w:d<=100000000)
 (v:∀c,Step a b c->Gn W f (d+1) c a->Mi (some (.tuple [],c)) cx (pK prog cx e) p r i j q n m o k u s b g):Mi (hl prog cx e 107 [.ptr a 0 0 0,l.t] b) cx (pK prog cx e) p r i j q n m o k u s b g:=
 lO JP ht ⟨W,f,d,a,l⟩ ⟨rfl,x,w⟩ (by rintro _ c ⟨rfl,z,y⟩;exact v c z y)
def Mx(c:Nat)(H:(jr Jq (λh a b=>ED h a b/\h.e.w<c) A2).Ok prog cx 216):(jr Jq (λh a b=>ED h a b/\h.e.w<c+1) A2).Ok prog cx 216:=by
 refine jn (tb:=⟨pt [(123,BP),(253,rN)],ht [(107,jr C3 tV qh),(216,jr Jq (λh a b=>ED h a b/\h.e.w<c) A2)]⟩) iB gW (iP 20282409606012871684182924853463 [] func216) (λ_ _=>5) (λh a b aA=>by obtain⟨⟨rfl,_⟩,_⟩:=aA;simp[f216]) ?_;rintro⟨W,u,r,x,v,M⟩ _ b ⟨⟨rfl,c,l,z,hE,an⟩,Y⟩ bS n;simp only at c l z hE an Y;simp at n;obtain⟨d,f,g⟩:=n;obtain⟨m,ae,al⟩:=l.2.2.2.2.2;have bl:=c.lt;have Q:(x=b.size)=False:=dp;obtain⟨bH,bu,bB,next,O,E,gO,a8⟩:=c.ex;simp only[sq]at E;have q:=c.hr.cons (Z 4 0 [v.t]);have l1:=Lb.new c.hr.lt c.hr.fp (Z 4 0 [v.t]);have s:=Step.cons c.ok.hr c.hr.lt (Z 4 0 [v.t]);have S:=λ{tb:fw} (b:tb.p 123=some BP) L=>Mt b u L B;have N:=λ{tb:fw} (b:tb.p 253=some rN) L=>Kx b W L l.1;have bk:=v.kQ;simp[f216,d,f,g];cases hE with
 |num a=>
  simp[d,f,g];refine nO J q B λy j i=>?_;simp;exact⟨rfl,(s.trans j).out,r+1,dq,dq,i.out⟩
 |nm a=>
  simp[d,f,g,E,Q,S];refine dV (λX=>?_) (λX=>?_)
  ·simp[d,f,g];refine nO J q B λy j i=>?_;simp;exact⟨rfl,(s.trans j).out,r+1,dq,dq,i.out⟩
  ·simp[d,f,g,E,Q,N];refine nO J q B λy j i=>?_;simp;exact⟨rfl,(s.trans j).out,r+1,dq,dq,i.out⟩
 | @ix a n=>
  have U:(dL.mk 3 0 [113] [a]).w=1+a.w:=by rw[dL.kQ];simp[dL.jR,dL.iJ]
  simp[d,f,g];refine iD H J ⟨W,u,r,x,a,M⟩ ⟨⟨rfl,q,l,z,n,dq⟩,dq⟩ ?_;rintro _ T ⟨rfl,k,I,F,G,o⟩;simp only at k F G o;have l2:=l1.step k;obtain⟨bN,bz,bC,bs,aN,P,aX,bi⟩:=o.ex;simp only[sq,nh]at P l2;simp[d,f,g,P,l2.get,N,al,ae];refine nO J o B λy j i=>?_;simp;exact⟨rfl,((s.trans k).trans j).out,I+1,dq,dq,i.out⟩
 | @bin A a C bn n V=>
  have U:(dL.mk A 0 [] [a,C]).w=1+a.w+C.w:=by rw[dL.kQ];simp[dL.jR,dL.iJ];omega
  simp[d,f,g,show¬A=1 by omega,show¬A=2 by omega,show¬A=3 by omega];refine iD H J ⟨W,u,r,x,a,M⟩ ⟨⟨rfl,q,l,z,n,dq⟩,dq⟩ ?_;rintro _ T ⟨rfl,k,I,F,G,o⟩;simp only at k F G o;have l2:=l1.step k;simp only[nh]at l2;simp[d,f,g,l2.get,nG];refine iD H J ⟨W,u,I,x,C,_⟩ ⟨⟨rfl,o,l,z,V,dq⟩,dq⟩ ?_;rintro _ a7 ⟨rfl,K,aE,ap,av,R⟩;simp only at K ap av R;have l3:=l2.step K;simp[d,f,g,l3.get,nG];refine nO J R B λy j i=>?_;simp;exact⟨rfl,(((s.trans k).trans K).trans j).out,aE+1,dq,dq,i.out⟩
abbrev M3:kI:=jr Jq (λa b c=>ED a b c/\a.e.w<10000001) A2
def QM:M3.Ok prog cx 216:=yY (λa:Jq=>a.e.w) Mx 10000001
def Hr{g:fw}{n:Nat}{W:dR}{f:List (List Nat)}{d b:Nat}{a:dL}{k:Int}{i:H}{o:af Oper}{l:aa Tmp}{m:List Oper}{q p:fH}{j:iq}(ht:g.h 216=some M3)(y:Gn W f d i b)(u:okW W)(s:f.length<=1000000)(v:ME a)(x:d+a.w<=10000000)
 (r:∀c e,Step b i c->d<e->e<=d+a.w->Gn W f e c b->XK (some (.tuple [],c)) cx (pK prog cx g) n o l m q p j):XK (hl prog cx g 216 [.ptr b 0 0 0,a.t,D k] i) cx (pK prog cx g) n o l m q p j:=
 iD QM ht ⟨W,f,d,b,a,k⟩ ⟨⟨rfl,y,u,s,v,x⟩,dq⟩ (by rintro _ c ⟨rfl,E,e,z,A,C⟩;exact r c e E z A C)
structure Xi where
 (W:dR) (L:List (List Nat)) (n g:Nat) (s:dH)
def BT(a:Xi)(b:List T)(c:H):Prop:=b=[.ptr a.g 0 0 0,a.s.t]/\Gn a.W a.L a.n c a.g/\okW a.W/\a.L.length<=1000000/\MS a.s/\a.n+a.s.w<=10000000
def xg(a:Xi)(f:List T)(d:H)(e:T)(c:H):Prop:=e= .tuple []/\Step a.g d c/\∃b,a.n<=b/\b<=a.n+a.s.w/\Gn a.W a.L b c a.g
def Iw:(jr Xi (λw z a=>BT w z a/\w.s.op=1) xg).Ok prog cx 212:=by
 refine jn (tb:=⟨pt [(123,BP),(253,rN)],ht [(107,jr C3 tV qh),(216,M3)]⟩) iB gW (iP 36893488147419136123 [] func212) (λ_ _=>5) (λw z a ae=>by obtain⟨⟨rfl,_⟩,_⟩:=ae;simp[f212]) ?_;rintro⟨W,L,n,P,k⟩ _ a ⟨⟨rfl,d,f,q,u,X⟩,v⟩ bC F;simp only at d f q u X v;simp at F;obtain⟨b,c⟩:=F;obtain⟨m,U,V⟩:=f.2.2.2.2.2;have bl:=d.lt;have Y:(P=a.size)=False:=dp;obtain⟨bB,bn,bz,next,O,C,gO,bk⟩:=d.ex;simp only[sq]at C;have H:=d.hr.cons (Z 11 0 [k.t]);have l1:=Lb.new d.hr.lt d.hr.fp (Z 11 0 [k.t]);have y:=Step.cons d.ok.hr d.hr.lt (Z 11 0 [k.t]);have N:=λ{tb:fw} (a:tb.p 123=some BP) o=>Mt a L o B;have A:=λ{tb:fw} (a:tb.p 253=some rN) o=>Kx a W o f.1;have an:=k.kQ;have G:=u.ex (.inl v);simp[f212,b,c,C,Y];cases h:k.index with
 |cons o r=>
  have al:=u.arr v (by rw[h];simp);have ap:=u.ind o (by rw[h];simp);rw[h,dL.jR]at an;simp[b,c,h];refine Hr J H f q ap B λR x g aN aX i=>?_;have l2:=l1.step g;simp only[nh]at l2;simp[b,c,l2.get,nG];refine Hr J i f q G B λbi av K bs bu I=>?_;have l3:=l2.step K;obtain⟨a8,aE,a7,aA,M,e,Q,S⟩:=I.ex;simp only[sq]at e;simp[b,c,l3.get,e,A,al,V,U,nG];refine nO J I B λE l j=>?_;simp;exact⟨rfl,(((y.trans g).trans K).trans l).out,av+1,dq,dq,j.out⟩
 |nil=>
  simp[b,c,h];refine Hr J H f q G B λR x g aN aX i=>?_;have l2:=l1.step g;simp only[nh]at l2;obtain⟨a8,aE,a7,aA,M,e,Q,S⟩:=i.ex;simp only[sq]at e;simp[b,c,l2.get,e,N];refine dV (λT=>?_) (λT=>?_)
  ·simp[b,c];refine nO J i B λE l j=>?_;simp;exact⟨rfl,((y.trans g).trans l).out,x+1,dq,dq,j.out⟩
  ·simp[b,c,l2.get,e,A];refine nO J i B λE l j=>?_;simp;exact⟨rfl,((y.trans g).trans l).out,x+1,dq,dq,j.out⟩
def EC:kI:=⟨λd a=>∃W c f b h,d=[.ptr b 0 0 0,.str h]/\Gn W c f a b/\okW W,λ_ a g e=>e=a/\D7 g⟩
def N9:EC.Ok prog cx 215:=by
 refine HP (tb:=⟨pt [],ht []⟩) iB gW (iP 67117107 [] func215) false (λ_ _=>1000005) (λt f q=>by obtain⟨W,l,r,i,k,rfl,_⟩:=q;simp[f215]) ?_;rintro _ f ⟨W,l,r,i,k,rfl,e,m⟩ c j;simp at j;obtain⟨a,b⟩:=j;obtain⟨y,w,x,next,s,g,gO,u⟩:=e.ex;simp only[sq]at g;have hl:=m.2.2.1;simp[f215,a,b];refine fc W.fV.length B (λe c h=>h=hr f/\dy c 0 (.ptr i 0 0 0)/\dy c 1 (.str k)/\dy c 5 (D e)) ?_ ?_ B (by simp[a,b])
 ·rintro v c h p n ⟨rfl,a,b,d⟩;simp[a,b,d,g,p];refine dV (λo=>?_) (λo=>?_)
  ·simp[d];exact pF f _ _ e.ok.hp (Fr.refl _ _) rfl ⟨rfl,J⟩
  ·simp[a,b,d,n]
 ·rintro c h ⟨rfl,a,b,d⟩;simp[a,b,d,g];exact pF f _ _ e.ok.hp (Fr.refl _ _) rfl ⟨rfl,J⟩
def Gn.opn{W:dR}{r:List (List Nat)}{a:Nat}{j:H}{h:Nat}(u:Gn W r a j h)(x:0<a):∃p o next,∃b:List fD,∃c g q k f,j.get h=some (Z 10 p [.agg (sq W r (.arr c g 0 a false) o next)])/\j.get c=some ⟨6,g,q,k,false,f⟩/\c≠h/\Fp j h c/\f.take a=b.map fD.t/\b.length=a/\∀e,e<a->∃w:fD,f[e]? =some w.t:=by
 obtain⟨p,y,o,next,b,i,gO,n⟩:=u.ex;rcases gO with⟨_,d⟩|⟨c,g,q,k,f,rfl,d,m⟩
 ·simp at d;subst d;simp at n;omega
 rw[aG,n]at i m;refine⟨p,o,next,b,c,g,q,k,f,i,d,λv=>by subst v;rw[i]at d;simp at d,.inr ⟨_,i,.arr c g 0 a false,by simp[eY,T.cells,sq],rfl⟩,m,n,λe s=>⟨b[e],?_⟩⟩;have:(f.take a)[e]? =(b.map fD.t)[e]? :=by rw[m]
 rw[cg,aq s,aQ,ay (l:=b) B]at this;exact this
def QG(W:dR)(e:List (List Nat))(d b g:Nat)(f c:H):Prop:=Step b f c/\∃a,d<=a/\a<=d+g/\Gn W e a c b
structure ab7 where
 (W:dR) (L:List (List Nat)) (n g:Nat) (l:List dH)
def U5(a:ab7)(b:List T)(c:H):Prop:=b=[.ptr a.g 0 0 0,sl (a.l.map dH.t)]/\Gn a.W a.L a.n c a.g/\okW a.W/\a.L.length<=1000000/\(∀d∈a.l,MS d)/\a.n+dH.ws a.l<=10000000
abbrev Dd(e:Nat):kI:=jr ab7 (λa c b=>U5 a c b/\dH.ws a.l<e) (λa _ b f d=>f= .tuple []/\QG a.W a.L a.n a.g (dH.ws a.l) b d)
abbrev rSt(d:Nat):kI:=jr Xi (λa b c=>BT a b c/\a.s.w<d) xg
def Ku{j:Nat}(z:(Dd j).Ok prog cx 106){g:fw}{n:Nat}{W:dR}{f:List (List Nat)}{d b:Nat}{a:List dH}{i:H}{o:af Oper}{l:aa Tmp}{m:List Oper}{q p:fH}{k:iq}(ht:g.h 106=some (Dd j))(y:Gn W f d i b)(u:okW W)(s:f.length<=1000000)(x:∀F∈a,MS F)(w:d+dH.ws a<=10000000)(v:dH.ws a<j)
 (r:∀c e,Step b i c->d<=e->e<=d+dH.ws a->Gn W f e c b->XK (some (.tuple [],c)) cx (pK prog cx g) n o l m q p k):XK (hl prog cx g 106 [.ptr b 0 0 0,sl (a.map dH.t)] i) cx (pK prog cx g) n o l m q p k:=
 iD z ht ⟨W,f,d,b,a⟩ ⟨⟨rfl,y,u,s,x,w⟩,v⟩ (by rintro _ c ⟨rfl,a,e,A,C,E⟩;exact r c e a A C E)
def AI(ap:Nat)(bk:(Dd ap).Ok prog cx 106):(jr Xi (λi aE S=>(BT i aE S/\i.s.w<ap+1)/\(i.s.op=2\/i.s.op=3)) xg).Ok prog cx 213:=by
 refine jn (tb:=⟨pt [],ht [(107,jr C3 tV qh),(216,M3),(106,Dd ap)]⟩) iB gW (iP 590296373308659073275 [] func213) (λ_ _=>5) (λi aE S cL=>by obtain⟨⟨⟨rfl,_⟩,_⟩,_⟩:=cL;simp[f213]) ?_;rintro⟨W,R,ey,p,Y⟩ _ S ⟨⟨⟨rfl,m,V,T,U,ce⟩,ca⟩,bi⟩ eR a8;simp only at m V T U ce bi ca;simp at a8;obtain⟨f,g⟩:=a8;have et:=m.lt;have cp:(p=S.size)=False:=dp;obtain⟨eM,eC,de,next,O,aN,gO,er⟩:=m.ex;simp only[sq]at aN;have c1:=m.hr.cons (Z 11 0 [Y.t]);have l1:=Lb.new m.hr.lt m.hr.fp (Z 11 0 [Y.t]);have di:=Step.cons m.ok.hr m.hr.lt (Z 11 0 [Y.t]);have eu:=Y.kQ;have cb:=U.ex (by rcases bi with q|q<;>simp[q]);simp[f213,f,g,aN,cp,gO.len (cx:=cx)];refine Hr J c1 V T cb B λeb k bu p1 p2 bl=>?_;have l2:=l1.step bu;simp only[nh]at l2;obtain⟨eN,eD,eH,eA,ds,aX,bH,b6⟩:=bl.ex;simp only[sq]at aX;simp[f,g,aX,bH.len (cx:=cx),b6];refine nO J bl B λec bz c4=>?_;have l3:=l2.step bz;simp[f,g,l3.get];refine Ku bk J c4 V T U.bd B B λbT e bB p3 p4 bn=>?_;have l4:=l3.step bB;obtain⟨eO,eE,eI,c9,dv,al,bN,b7⟩:=bn.ex;obtain⟨av,C⟩:=bn.Gv al bN b7 de c9;simp only[sq]at al av C;have l5:=l4.step av;have aA:=(((di.trans bu).trans bz).trans bB).trans av;simp[f,g,al,dN];generalize dT bT p _=ef at*
 simp[f,g,l5.get];refine dV (λan=>?_) (λan=>?_)
 ·simp[f,g];refine nO J C B λH ae K=>?_;obtain⟨N,M,L,E,A,F,P,G,Q,d,h,u,r,y,I,v⟩:=K.opn B;obtain⟨x,l⟩:=v k B;have j:k<e+1:=B;obtain⟨o,z⟩:=K.elem (i:=k) (x:=⟨x.op,x.a,((e+1:Nat):Int),x.c,x.n,x.iQ⟩) h r u ⟨N,_,M,L,E,d,rfl,y,I,j⟩;simp only[sq]at d;simp[f,g,d,h,l,j];exact⟨rfl,((aA.trans ae).trans (by simpa using o)).out,e+1,dq,dq,(by simpa using z:Gn W R (e+1) _ p).out⟩
 simp[f,g,l5.get];refine dV (λan=>?_) (λan=>?_)
 ·simp[f,g];obtain⟨N,M,L,E,A,F,P,G,Q,d,h,u,r,y,I,v⟩:=C.opn B;obtain⟨x,l⟩:=v k B;have j:k<e:=B;obtain⟨o,z⟩:=C.elem (i:=k) (x:=⟨x.op,x.a,(e:Int),x.c,x.n,x.iQ⟩) h r u ⟨N,_,M,L,E,d,rfl,y,I,j⟩;simp only[sq]at d;simp[f,g,d,h,l,j];exact⟨rfl,(aA.trans (by simpa using o)).out,e,dq,dq,(by simpa using z:Gn W R e _ p).out⟩
 obtain⟨eP,eF,eL,eB,ea,a7,bS,b8⟩:=C.ex;simp only[sq]at a7;simp[f,g,a7,bS.len (cx:=cx),b8];refine nO J C B λH ae K=>?_;have l6:=l5.step ae;obtain⟨N,M,L,E,A,F,P,G,Q,d,h,u,r,y,I,v⟩:=K.opn B;obtain⟨x,l⟩:=v k B;have j:k<e+1:=B;obtain⟨o,z⟩:=K.elem (i:=k) (x:=⟨x.op,x.a,((e+1:Nat):Int),x.c,x.n,x.iQ⟩) h r u ⟨N,_,M,L,E,d,rfl,y,I,j⟩;simp only[sq]at d;simp[f,g,d,h,l,j];replace o:Step p H (dT H A ⟨6,F,P+1,G,false,Q.set k (fD.t ⟨x.op,x.a,(e:Int)+1,x.c,x.n,x.iQ⟩)⟩):=by simpa using o
 replace z:Gn W R (e+1) (dT H A ⟨6,F,P+1,G,false,Q.set k (fD.t ⟨x.op,x.a,(e:Int)+1,x.c,x.n,x.iQ⟩)⟩) p:=by simpa using z
 have l7:=l6.step o;generalize dT H A _=eh at*
 clear d h l;simp[f,g,l7.get];refine Ku bk J z V T U.el B B λeo X dk p5 p6 bs=>?_;have FO:=((aA.trans ae).trans o).trans dk;obtain⟨dn,dd,c7,bC,A,F,P,G,Q,d,h,u,r,y,b9,v⟩:=bs.opn B;obtain⟨x,l⟩:=v e B;have j:e<X:=B;obtain⟨dm,c6⟩:=bs.elem (i:=e) (x:=⟨x.op,(X:Int),x.b,x.c,x.n,x.iQ⟩) h r u ⟨dn,_,dd,c7,bC,d,rfl,y,b9,j⟩;simp only[sq]at d;simp[f,g,d,h,l,j];exact⟨rfl,(FO.trans (by simpa using dm)).out,X,dq,dq,(by simpa using c6:Gn W R X _ p).out⟩
structure IAr where
 (W:dR) (L:List (List Nat)) (n g:Nat) (s:dH) (a b o:Int)
def tP(p:Nat)(R:(Dd p).Ok prog cx 106):(jr IAr (λc F e=>F=[.ptr c.g 0 0 0,c.s.t,D c.a,D c.b,D c.o]/\BT ⟨c.W,c.L,c.n,c.g,c.s⟩ [.ptr c.g 0 0 0,c.s.t] e/\c.s.w<p+1) (λc _ e Y I=>xg ⟨c.W,c.L,c.n,c.g,c.s⟩ [] e Y I)).Ok prog cx 214:=by
 refine jn (tb:=⟨pt [],ht [(107,jr C3 tV qh),(106,Dd p)]⟩) iB gW (iP 1119 [] func214) (λ_ _=>5) (λc E e Q=>by obtain⟨rfl,_⟩:=Q;simp[f214]) ?_;rintro⟨W,av,bl,G,f,E,aE,bn⟩ _ e ⟨rfl,⟨_,d,v,r,u,N⟩,M⟩ bH x;simp only at d v r u N M;simp at x;obtain⟨i,j,k,l,m⟩:=x;have bi:=d.lt;have P:(G=e.size)=False:=dp;obtain⟨bB,bs,ae,next,O,q,gO,a8⟩:=d.ex;simp only[sq]at q;have S:=d.hr.cons (Z 11 0 [f.t]);have l1:=Lb.new d.hr.lt d.hr.fp (Z 11 0 [f.t]);have al:=Step.cons d.ok.hr d.hr.lt (Z 11 0 [f.t]);have bk:=f.kQ;simp[f214,i,j,k,l,m,q,P];refine nO J S B λaN A T=>?_;have l3:=l1.step A;simp only[nh]at l3;simp[i,j,k,l,m,l3.get];refine Ku R J T v r u.bd B B λaX V an p3 p4 y=>?_;obtain⟨bC,bu,bz,X,aA,h,H,K⟩:=y.ex;obtain⟨C,z⟩:=y.Gv h H K ae X;simp only[sq]at h C z;simp[i,j,k,l,m,h,dN];refine nO J z B λa7 ap U=>?_;simp;exact⟨rfl,((((al.trans A).trans an).trans C).trans ap).out,V+1,dq,dq,U.out⟩
def MK(m:Nat)(G:(rSt m).Ok prog cx 159):(Dd m).Ok prog cx 106:=by
 refine jn (tb:=⟨pt [],ht [(159,rSt m)]⟩) iB gW (iP 275 [] func106) (λ_ _=>10000005) (λd I r F=>by obtain⟨⟨rfl,_⟩,_⟩:=F;simp[f106]) ?_;rintro⟨W,q,n,f,l⟩ _ r ⟨⟨rfl,j,v,s,u,E⟩,C⟩ e w;simp only at j v s u E C;simp at w;obtain⟨a,b⟩:=w;have hl:=dH.uf (l:=l);simp[f106,a,b];refine fc l.length B (λd e g=>Step f (hr r) g/\(∃c,n<=c/\c<=n+dH.ws (l.take d)/\Gn W q c g f)/\dy e 0 (.ptr f 0 0 0)/\dy e 1 (sl (l.map dH.t))/\dy e 4 (D d)) ?_ ?_ B (by simp[a,b,Step.refl j.ok.hr];exact⟨n,au _,B,j.hr⟩)
 ·rintro d e g i A ⟨p,⟨c,y,o,k⟩,a,b,h⟩;have N:=dH.Es l i;have M:=dH.w7 l (d+1);have L:=dH.uE (aD i);simp[a,b,h,i];refine iD G J ⟨W,q,c,f,l[d]⟩ ⟨⟨rfl,k,v,s,u _ (aD i),dq⟩,dq⟩ ?_;rintro _ K ⟨rfl,z,H,p1,p2,x⟩;simp only at z p1 p2 x;simp[a,b,h,A];exact⟨p.trans z,H,B,B,x⟩
 ·rintro e g ⟨p,⟨c,y,o,k⟩,a,b,h⟩;rw[aJ]at o;simp[a,b,h];exact⟨p.out,c,y,o,k.out⟩
def Qv(C:Nat)(P:(Dd C).Ok prog cx 106):(rSt (C+1)).Ok prog cx 159:=by
 obtain⟨F,bl⟩:=hlI N9 (λ_ _ _ _ I=>I);refine jn (tb:=⟨pt [(123,BP),(157,rJ)],ht [(107,jr C3 tV qh),(216,M3),(212,jr Xi (λe Q j=>BT e Q j/\e.s.op=1) xg),(213,jr Xi (λe Q j=>(BT e Q j/\e.s.w<C+1)/\(e.s.op=2\/e.s.op=3)) xg),
  (214,jr IAr (λe aN j=>aN=[.ptr e.g 0 0 0,e.s.t,D e.a,D e.b,D e.o]/\BT ⟨e.W,e.L,e.n,e.g,e.s⟩ [.ptr e.g 0 0 0,e.s.t] j/\e.s.w<C+1) (λe _ j r k=>xg ⟨e.W,e.L,e.n,e.g,e.s⟩ [] j r k)),(215,EC)]⟩) iB gW (iP 365376106316094180278949616271352870286206697499 [(11,[(1,9)]),(13,[(1,9)]),(15,[(1,9)]),(34,[(7,12),(7,14)])] func159) (λ_ _=>5) (λe Q j bu=>by obtain⟨⟨rfl,_⟩,_⟩:=bu;simp[f159]) ?_
 rintro⟨W,E,l,A,m⟩ _ j ⟨⟨rfl,I,z,G,H,M⟩,N⟩ er an;simp only at I z G H M N;simp at an;obtain⟨f,bk⟩:=an;have c1:=I.lt;have c4:(A=j.size)=False:=dp;obtain⟨eb,dd,dn,next,O,a7,gO,ce⟩:=I.ex;have av:=I.hr.cons (Z 11 0 [m.t]);have l1:=Lb.new I.hr.lt I.hr.fp (Z 11 0 [m.t]);have bH:=Step.cons I.ok.hr I.hr.lt (Z 11 0 [m.t]);have c6:=m.kQ;obtain⟨ec,de,ds,aE,bS,T,a8,bn⟩:=av.ex;obtain⟨X,V⟩:=av.Gv T a8 bn aE aE;obtain⟨ef,di,bC,bB,bT,U,bi,bs⟩:=V.ex;obtain⟨Y,i⟩:=V.Gv U bi bs bC (IntKind.i64.wrap (bB+1));have l3:=(l1.step X).step Y;simp only[sq,nh]at a7 T X V U Y i l3;simp[f159,f,bk,T,dN,U,nG];have q:=(bH.trans X).trans Y;have R:=λ{tb:fw} (ht:tb.h 215=some EC) K=>bl ht [.ptr A 0 0 0,.str K] _ ⟨W,E,l,A,K,rfl,i,z⟩;generalize dT (dT _ A _) A _=ca at*
 obtain⟨eh,dk,dv,c7,b6,y,b8,cp⟩:=i.ex;simp only[sq]at y;have aX:=λ{tb:fw} (j:tb.p 123=some BP) K=>Mt j E K B;have eT:=λ{tb:fw} (j:tb.p 123=some BP) K=>Mt j W.dC K (by have:=z.2.2.2.2.1;omega);have ae:=λ{tb:fw} (j:tb.p 123=some BP) K=>Mt j W.dU K (by have:=z.2.2.2.1;omega);have S:=λ{tb:fw} (j:tb.p 157=some rJ) K=>Kv j W.dW K z.2.1;simp[y,f,l3.get]
 repeat' (refine dV (λap=>?_) (λap=>?_)<;>simp[ap,f,l3.get])
 ·try simp[f,l3.get]
  refine iD Iw J ⟨W,E,l,A,m⟩ ⟨⟨rfl,i,z,G,H,M⟩,by simpa using‹decide (m.op=1)=true›⟩ ?_;rintro _ k ⟨rfl,c,u,v,x,d⟩;simp;exact⟨rfl,(q.trans c).out,u,v,x,d.out⟩
 ·try simp[f,l3.get]
  refine iD (AI C P) J ⟨W,E,l,A,m⟩ ⟨⟨⟨rfl,i,z,G,H,M⟩,N⟩,.inl (by simpa using‹decide (m.op=2)=true›)⟩ ?_;rintro _ k ⟨rfl,c,u,v,x,d⟩;simp;exact⟨rfl,(q.trans c).out,u,v,x,d.out⟩
 ·try simp[f,l3.get]
  refine iD (AI C P) J ⟨W,E,l,A,m⟩ ⟨⟨⟨rfl,i,z,G,H,M⟩,N⟩,.inr (by simpa using‹decide (m.op=3)=true›)⟩ ?_;rintro _ k ⟨rfl,c,u,v,x,d⟩;simp;exact⟨rfl,(q.trans c).out,u,v,x,d.out⟩
 ·simp[f,l3.get,y,S];refine lO (tP C P) J ⟨W,E,l,A,m,11,12,_⟩ ⟨rfl,⟨rfl,i,z,G,H,M⟩,N⟩ ?_;rintro _ k ⟨rfl,c,u,v,x,d⟩;simp;exact⟨rfl,(q.trans c).out,u,v,x,d.out⟩
 ·simp[f,l3.get,y,S];refine lO (tP C P) J ⟨W,E,l,A,m,13,14,_⟩ ⟨rfl,⟨rfl,i,z,G,H,M⟩,N⟩ ?_;rintro _ k ⟨rfl,c,u,v,x,d⟩;simp;exact⟨rfl,(q.trans c).out,u,v,x,d.out⟩
 ·simp[f,l3.get,y,S];refine lO (tP C P) J ⟨W,E,l,A,m,15,16,_⟩ ⟨rfl,⟨rfl,i,z,G,H,M⟩,N⟩ ?_;rintro _ k ⟨rfl,c,u,v,x,d⟩;simp;exact⟨rfl,(q.trans c).out,u,v,x,d.out⟩
 ·try simp[f,l3.get,y]
  refine iD (tP C P) J ⟨W,E,l,A,m,17,18,_⟩ ⟨rfl,⟨rfl,i,z,G,H,M⟩,N⟩ ?_;rintro _ k ⟨rfl,c,u,v,x,d⟩;simp;exact⟨rfl,(q.trans c).out,u,v,x,d.out⟩
 ·try simp[f,l3.get,y]
  refine iD (tP C P) J ⟨W,E,l,A,m,19,20,_⟩ ⟨rfl,⟨rfl,i,z,G,H,M⟩,N⟩ ?_;rintro _ k ⟨rfl,c,u,v,x,d⟩;simp;exact⟨rfl,(q.trans c).out,u,v,x,d.out⟩
 ·simp[f,l3.get,y,R];refine nO J i B λk c d=>?_;simp;exact⟨rfl,(q.trans c).out,l+1,dq,dq,d.out⟩
 ·simp[f,l3.get,y,R];refine nO J i B λk c d=>?_;simp;exact⟨rfl,(q.trans c).out,l+1,dq,dq,d.out⟩
 ·simp[f,l3.get,y,R];refine nO J i B λk c d=>?_;simp;exact⟨rfl,(q.trans c).out,l+1,dq,dq,d.out⟩
 ·simp[f,l3.get,y,eT];refine nO J i B λk c d=>?_;simp;exact⟨rfl,(q.trans c).out,l+1,dq,dq,d.out⟩
 ·simp[f,l3.get,y,eT];refine nO J i B λk c d=>?_;simp;exact⟨rfl,(q.trans c).out,l+1,dq,dq,d.out⟩
 ·try simp[f,l3.get,y]
  refine Hr J i z G (H.ex (.inr (.inr (.inr (by simpa using‹decide (m.op=14)=true›))))) B λcb bz c p1 p2 aA=>?_;obtain⟨eo,dm,ea,c9,b7,al,b9,cL⟩:=aA.ex;simp only[sq]at al;simp[f,(l3.step c).get,al,ae];refine nO J aA B λk bN d=>?_;simp;exact⟨rfl,((q.trans c).trans bN).out,bz+1,dq,dq,d.out⟩
 ·simp[f,l3.get,y,aX,ae];refine abM J i B λk c d=>?_;simp;exact⟨rfl,(q.trans c).out,l+1,dq,dq,d.out⟩
 ·exact⟨rfl,q.out,l,au _,dq,i.out⟩
def Ll(a:Nat):(Dd a).Ok prog cx 106:=by
 induction a with
 |zero=>intro d e ⟨f,_,b⟩;exact absurd b (Nat.not_lt_zero _)
 |succ a c=>exact MK (a+1) (Qv a c)
