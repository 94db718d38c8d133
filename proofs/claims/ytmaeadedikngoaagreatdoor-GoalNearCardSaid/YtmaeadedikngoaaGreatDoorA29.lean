/- Texts W06m to W06n. -/
import Derived.Test.YtmaeadedikngoaaGreatDoorA28
set_option linter.all false
set_option maxRecDepth 100000
set_option maxHeartbeats 8000000
namespace Go.Proofs.YtmaeadedikngoaaGreatDoor
noncomputable section
open Go Go.TI
attribute [-simp] List.map_take List.map_drop List.map_append fw eQ dZ Bool.not_or Bool.not_and
attribute [simp] fq eY
def qk:gu:=⟨dU×List Nat,λa=>[a.1.t,.str a.2],λa=>a.1.cells.length<=1000000,λa=> dy (rx (a.1.cells.map ge.name) a.2 0),λa c b=>by
 simp at b;rw[dU.inj b.1,b.2]⟩
def Oc:qk.Ok Tryz.prog cx 231:=by
 refine gX (tb:=⟨pt [],ht []⟩) ew ej (iQ 1049655 [] Tryz.func231) (λo=>o.1.cells.length+1) (by simp[qk]) (by simp[qk,Tryz.f231]) ?_;rintro⟨k,l⟩ hl b m;simp[qk]at hl m|-;obtain⟨p,c⟩:=m;simp[Tryz.f231,p];refine fh k.cells.length dq (λi b g=>gF 1 g/\g.get 0=some (dA 6 0 [k.t])/\dB b 1 (.str l)/\dB b 2 (.ptr 0 0 0 0)/\dB b 5 (dy i)/\rx ((k.cells.drop i).map ge.name) l i=rx (k.cells.map ge.name) l 0) ?_ ?_ dq (by simp[c])
 ·rintro i b g n q ⟨j,f,c,h,d,a⟩;rw[aI n,aR,rx]at a;simp[f,c,h,d,n];refine dW (λe=> ?_) (λe=> ?_)
  ·simp at e;rw[aq e]at a;simp[d,<-a,j.hp]
  ·simp at e;rw[ao e]at a;simp[f,c,h,d,q,a,j]
 ·rintro b g ⟨j,f,c,h,d,a⟩;simp[rx]at a;simp[f,h,d,<-a,j.hp]
def Kz{c:fy}(ht:c.p 231=some qk)(a:dU)(b:List Nat)(hl:a.cells.length<=1000000):rl Tryz.prog cx c 231 [a.t,.str b]=some (dy (rx (a.cells.map ge.name) b 0)):=gU ht Oc (a,b) hl
def qg:gu:=⟨List io×List Nat,λa=>[sl (a.1.map io.t),.str a.2],λa=>a.1.length<=1000000,λa=> dy (rx (a.1.map io.name) a.2 0),λa c b=>by
 simp at b;rw[jw (λ_ _=>io.inj) b.1,b.2]⟩
def NQ:qg.Ok Tryz.prog cx 146:=by
 refine gX (tb:=⟨pt [],ht []⟩) ew ej (iQ 262707 [] Tryz.func146) (λm=>m.1.length+1) (by simp[qg]) (by simp[qg,Tryz.f146]) ?_;rintro⟨h,j⟩ hl c k;simp[qg]at hl k|-;obtain⟨b,d⟩:=k;simp[Tryz.f146];refine fh h.length dq (λg c i=>i=hE/\dB c 0 (sl (h.map io.t))/\dB c 1 (.str j)/\dB c 5 (dy g)/\rx ((h.drop g).map io.name) j g=rx (h.map io.name) j 0) ?_ ?_ dq (by simp[b,d])
 ·rintro g c i l n ⟨rfl,b,d,e,a⟩;rw[aI l,aR,rx]at a;simp[b,d,e,l];refine dW (λf=> ?_) (λf=> ?_)
  ·simp at f;rw[aq f]at a;simp[e,<-a]
  ·simp at f;rw[ao f]at a;simp[b,d,e,n,a]
 ·rintro c i ⟨rfl,b,d,e,a⟩;simp[rx]at a;simp[b,e,<-a]
def Ky{c:fy}(ht:c.p 146=some qg)(a:List io)(b:List Nat)(hl:a.length<=1000000):rl Tryz.prog cx c 146 [sl (a.map io.t),.str b]=some (dy (rx (a.map io.name) b 0)):=gU ht NQ (a,b) hl
def sr(W:dU)(a:List (List Nat))(b:T)(c next:Int):List T:=
 [sl (W.cells.map ge.t),sl (W.dY.map io.t),sl (W.fZ.map iF.t),sl (W.dX.map T.str),sl (W.dE.map T.str),sl (W.iq.map ir.t),sl (a.map T.str),b,dy c,dy next]
structure Gn(W:dU)(L:List (List Nat))(n:Nat)(h:H)(g:Nat):Prop where
 ok:gF 0 h
 fp:∀b,Fp h g b->b<h.size
 ex:∃ver ov iS next,∃O:List fI,h.get g=some (dA 10 ver [.agg (sr W L ov iS next)])/\Gr h ov 6 (O.map fI.t)/\O.length=n
def Gn.lt{W:dU}{c:List (List Nat)}{e:Nat}{b:H}{a:Nat}(d:Gn W c e b a):a<b.size:=d.fp a (.inl rfl)
def Gn.same{W:dU}{f:List (List Nat)}{k:Nat}{c d:H}{b:Nat}(j:Gn W f k c b)(q:gF 0 d)(h:∀a,Fp c b a->d.get a=c.get a)(p:c.size<=d.size):Gn W f k d b:=by
 obtain⟨s,l,r,next,m,g,n,o⟩:=j.ex;have i:=h b (.inl rfl);exact⟨q,λa e=>by rw[iJ i]at e;exact bE (j.fp a e) p,s,l,r,next,m,by rw[i];exact g,n.mono λa e=>h a (.inr ⟨_,g,l,by simp[fa,T.cells,sr],e⟩),o⟩
def Gn.cons{W:dU}{b:List (List Nat)}{e:Nat}{d:H}{c:Nat}(a:Gn W b e d c)(f:iN):Gn W b e (d.cons f) c:=
 a.same (a.ok.cons f) (λg h=>by rw[dP,ao (by have:=a.fp g h;omega)]) dt 
def Gn.hr{W:dU}{b:List (List Nat)}{e:Nat}{a:H}{c:Nat}(d:Gn W b e a c):Gn W b e (TI.hr a) c:=d.same d.ok.hr (λf _=>f9 a f) (au _)
def Gn.out{W:dU}{b:List (List Nat)}{e:Nat}{h a:H}{c:Nat}(d:Gn W b e a c):Gn W b e (lL h a) c:=d.same (d.ok.out h) (λf _=>fO h a f) (au _)
def Gn.Gu{W:dU}{a:List (List Nat)}{h b f:Nat}{c:H}{d:T}{q next:Int}{g:List fI}(k:Gn W a h c b)(l:c.get b=some (dA 10 f [.agg (sr W a d q next)]))(gO:Gr c d 6 (g.map fI.t))(m:g.length=h)(e next':Int):
 Step b c (dT c b (dA 10 (f+1) [.agg (sr W a d e next')]))/\Gn W a h (dT c b (dA 10 (f+1) [.agg (sr W a d e next')])) b:=by
 obtain⟨i,n,o,p⟩:=AR k.ok k.fp l (cells':=sr W a d e next') (λr j=>by
  simp[sr]at j|-;rcases j with rfl|rfl|rfl|rfl|rfl|rfl|rfl|rfl|rfl|rfl<;>simp) _ rfl
 exact⟨i,⟨i.ok.hp,i.ok.low,aw _⟩,n,f+1,d,e,next',g,o,p _ _ _ gO dx,m⟩
def Gn.app{W:dU}{b:List (List Nat)}{n a f:Nat}{c d:H}{h j:T}{e next:Int}{g:List fI}{x:fI}(o:Gn W b n c a)(k:c.get a=some (dA 10 f [.agg (sr W b h e next)]))(gO:Gr c h 6 (g.map fI.t))(r:g.length=n)(s:AK c h 6 (g.map fI.t++[x.t]) j d):
 d.get a=some (dA 10 f [.agg (sr W b h e next)])/\eJ c d a=true/\Step a c (dT d a (dA 10 (f+1) [.agg (sr W b j e next)]))/\Gn W b (n+1) (dT d a (dA 10 (f+1) [.agg (sr W b j e next)])) a:=by
 obtain⟨l,u⟩:=vX (i:=7) o.ok o.fp k rfl dx gO s.xt;obtain⟨m,p,q,v⟩:=u _ rfl;exact⟨l.trans k,ff l,m,⟨m.ok.hp,m.ok.low,aw _⟩,p,f+1,j,e,next,g++[x],by rw[dI (l.trans k),aq rfl],by rw[List.map_append];exact q,by simp[r]⟩
def Gn.elem{W:dU}{k:List (List Nat)}{g c b d h:Nat}{f:Bool}{a:H}{e:List T}{i:Nat}{x:fI}(u:Gn W k g a c)(m:a.get b=some ⟨6,d,h,f,false,e⟩)(A:Fp a c b)(r:b≠c)
 (B:∃q n o next,∃j:List fI,a.get c=some (dA 10 q [.agg (sr W k n o next)])/\n= .arr b d 0 g false/\e.take g=j.map fI.t/\j.length=g/\i<g):
 Step c a (dT a b ⟨6,d,h+1,f,false,e.set i x.t⟩)/\Gn W k g (dT a b ⟨6,d,h+1,f,false,e.set i x.t⟩) c:=by
 obtain⟨q,n,o,next,j,y,rfl,z,l,C⟩:=B;have p:=Step.YA u.ok m A r ⟨6,d,h+1,f,false,e.set i x.t⟩;have s:(dT a b ⟨6,d,h+1,f,false,e.set i x.t⟩).get c=a.get c:=by rw[dI m,ao (bg r)]
 refine⟨p,⟨p.ok.hp,p.ok.low,aw _⟩,λw v=>by rw[iJ s]at v;rw[fJ];exact u.fp w v,q,_,o,next,j.set i x,by rw[s];exact y,.inr ⟨b,d,h+1,f,e.set i x.t,by simp[l],by rw[dI m,aq rfl],?_⟩,by simp[l]⟩;rw[aH,cO,l,List.take_set,z,bR]
structure CJ where
 (W:dU) (L:List (List Nat)) (n g:Nat) (i:fI)
def ud(a:CJ)(b:List T)(c:H):Prop:=b=[.ptr a.g 0 0 0,a.i.t]/\Gn a.W a.L a.n c a.g/\a.n<=100000000
def ql(a:CJ)(e:List T)(c:H)(d:T)(b:H):Prop:=d= .tuple []/\Step a.g c b/\Gn a.W a.L (a.n+1) b a.g
def JS:(js CJ ud ql).Ok Tryz.prog cx 96:=by
 refine jo (tb:=⟨pt [],ht []⟩) ew ej (iQ 11 [] Tryz.func96) (λ_ _=>5) (λd M h H=>by obtain⟨rfl,_⟩:=H;simp[Tryz.f96]) ?_;rintro⟨W,v,P,j,d⟩ _ h ⟨rfl,f,F⟩ S p;simp only at f F;simp at p;obtain⟨B,C⟩:=p;have O:=f.lt;have G:(j=h.size)=False:=du;obtain⟨L,l,e,next,y,g,gO,D⟩:=f.ex;have k:=(f.hr.cons (dA 6 1 [fI.t ⟨d.op,d.a,d.b,d.c,d.n,e⟩]));have q:=k.cons (dA 6 0 [fI.t ⟨d.op,d.a,d.b,d.c,d.n,e⟩]);have K:=(Step.cons (w:=j) f.ok.hr f.lt (dA 6 1 [fI.t ⟨d.op,d.a,d.b,d.c,d.n,e⟩])).trans (Step.cons k.ok k.lt (dA 6 0 [fI.t ⟨d.op,d.a,d.b,d.c,d.n,e⟩]));have A:(((hr h).cons (dA 6 1 [fI.t ⟨d.op,d.a,d.b,d.c,d.n,e⟩])).cons (dA 6 0 [fI.t ⟨d.op,d.a,d.b,d.c,d.n,e⟩])).get j=some (dA 10 L [.agg (sr W v l e next)]):=by
  rw[dP,ao du,dP,ao du,f9];exact g
 have o:Gr (((hr h).cons (dA 6 1 [fI.t ⟨d.op,d.a,d.b,d.c,d.n,e⟩])).cons (dA 6 0 [fI.t ⟨d.op,d.a,d.b,d.c,d.n,e⟩])) l 6 (y.map fI.t):=gO.mono λm E=>by
  have:m<h.size:=f.fp m (.inr ⟨_,g,l,by simp[fa,T.cells,sr],E⟩);rw[dP,ao du,dP,ao du,f9]
 obtain⟨R,N,z,i⟩:=o.app (cx:=cx) q.ok (x:= .arr (h.size+1) 0 0 1 false) (xs:=[fI.t ⟨d.op,d.a,d.b,d.c,d.n,e⟩]) Kk rfl Rq Kk rfl rfl dt (by rw[f7];simp) dt dt du;obtain⟨r,Q,I,J⟩:=q.app A o D i;have s:=(K.trans I).out;have u:=J.out (h:=h);simp only[sr]at g r s u;simp[Tryz.f96,B,C,g,G,z,r,i.gr.gJ,i.gr.cells,dS];exact⟨rfl,s,u⟩
structure Jt where
 (W:dU) (L:List (List Nat)) (n g:Nat) (e:dN) (d:Int)
def okW(W:dU):Prop:=W.cells.length<=1000000/\W.dY.length<=1000000/\W.fZ.length<=1000000/\W.dX.length<=1000000/\W.dE.length<=1000000/\∃a,a<W.cells.length/\rx (W.cells.map ge.name) [113] 0=a
def Eg(a:Jt)(b:List T)(c:H):Prop:=b=[.ptr a.g 0 0 0,a.e.t,dy a.d]/\Gn a.W a.L a.n c a.g/\okW a.W/\a.L.length<=1000000/\ME a.e/\a.n+a.e.w<=10000000
def adj(W:dU)(e:List (List Nat))(d g b:Nat)(f c:H):Prop:=Step b f c/\∃a,d<a/\a<=d+g/\Gn W e a c b
def AQ(a:Jt)(f:List T)(b:H)(d:T)(c:H):Prop:=d= .tuple []/\adj a.W a.L a.n a.e.w a.g b c
def nQ{d:fy}{l:Nat}{W:dU}{e:List (List Nat)}{c a:Nat}{i:fI}{f:H}{m:af Oper}{j:aa Tmp}{k:List Oper}{o n:fN}{g:iB}(ht:d.h 96=some (js CJ ud ql))(r:Gn W e c f a)(q:c<=100000000)
 (p:∀b,Step a f b->Gn W e (c+1) b a->XK (some (.tuple [],b)) cx (qp Tryz.prog cx d) l m j k o n g):XK (hl Tryz.prog cx d 96 [.ptr a 0 0 0,i.t] f) cx (qp Tryz.prog cx d) l m j k o n g:=
 gY JS ht ⟨W,e,c,a,i⟩ ⟨rfl,r,q⟩ (by rintro _ b ⟨rfl,u,s⟩;exact p b u s)
def Z9{e:fy}{p:Nat}{W:dU}{f:List (List Nat)}{d a:Nat}{l:fI}{b:H}{r:af Oper}{i:List (Nat×Nat)}{j:aa Tmp}{q:Op}{n:List Oper}{m:Nat}{o:List (Nat×Nat)}{k:List (Nat×H×H)}{u s:fN}{g:iB}(ht:e.h 96=some (js CJ ud ql))(x:Gn W f d b a)(w:d<=100000000)
 (v:∀c,Step a b c->Gn W f (d+1) c a->P7 (some (.tuple [],c)) cx (qp Tryz.prog cx e) p r i j q n m o k u s b g):P7 (hl Tryz.prog cx e 96 [.ptr a 0 0 0,l.t] b) cx (qp Tryz.prog cx e) p r i j q n m o k u s b g:=
 lP JS ht ⟨W,f,d,a,l⟩ ⟨rfl,x,w⟩ (by rintro _ c ⟨rfl,z,y⟩;exact v c z y)
def Mt(c:Nat)(E:(js Jt (λf a b=>Eg f a b/\f.e.w<c) AQ).Ok Tryz.prog cx 198):(js Jt (λf a b=>Eg f a b/\f.e.w<c+1) AQ).Ok Tryz.prog cx 198:=by
 refine jo (tb:=⟨pt [(110,AO),(231,qk)],ht [(96,js CJ ud ql),(198,js Jt (λf a b=>Eg f a b/\f.e.w<c) AQ)]⟩) ew ej (iQ 20282409606012871684182924853463 [] Tryz.func198) (λ_ _=>5) (λf a b al=>by obtain⟨⟨rfl,_⟩,_⟩:=al;simp[Tryz.f198]) ?_;rintro⟨W,s,q,v,u,I⟩ _ b ⟨⟨rfl,c,k,y,hE,Y⟩,U⟩ bz l;simp only at c k y hE Y U;simp at l;obtain⟨d,P,i⟩:=l;obtain⟨m,V,X⟩:=k.2.2.2.2.2;have a6:=c.lt;have L:(v=b.size)=False:=du;obtain⟨bs,bi,bl,next,O,B,gO,aE⟩:=c.ex;simp only[sr]at B;have o:=c.hr.cons (dA 4 0 [u.t]);have l1:=Lb.new c.hr.lt c.hr.fp (dA 4 0 [u.t]);have r:=Step.cons c.ok.hr c.hr.lt (dA 4 0 [u.t]);have N:=λ{tb:fy} (b:tb.p 110=some AO) H=>Mr b s H dq;have J:=λ{tb:fy} (b:tb.p 231=some qk) H=>Kz b W H k.1;have aX:=u.kU;simp[Tryz.f198,P];cases hE with
 |num a=>
  simp[d,i];refine nQ dt o dq λx h g=> ?_;simp;exact⟨rfl,(r.trans h).out,q+1,dw,dw,g.out⟩
 |nm a=>
  simp[d,B,L,N];refine dW (λT=> ?_) (λT=> ?_)
  ·simp[d,i];refine nQ dt o dq λx h g=> ?_;simp;exact⟨rfl,(r.trans h).out,q+1,dw,dw,g.out⟩
  ·simp[d,i,B,L,J];refine nQ dt o dq λx h g=> ?_;simp;exact⟨rfl,(r.trans h).out,q+1,dw,dw,g.out⟩
 | @ix a l=>
  have R:(dN.mk 3 0 [113] [a]).w=1+a.w:=by rw[dN.kU];simp[dN.jQ,dN.iD]
  simp[d,i];refine gY E dt ⟨W,s,q,v,a,I⟩ ⟨⟨rfl,o,k,y,l,dw⟩,dw⟩ ?_;rintro _ Q ⟨rfl,j,F,C,D,n⟩;simp only at j C D n;have l2:=l1.step j;obtain⟨bu,bk,bn,a8,ap,K,av,aN⟩:=n.ex;simp only[sr,nq]at K l2;simp[d,i,K,l2.get,J,X,V];refine nQ dt n dq λx h g=> ?_;simp;exact⟨rfl,((r.trans j).trans h).out,F+1,dw,dw,g.out⟩
 | @bin z a A a7 l S=>
  have R:(dN.mk z 0 [] [a,A]).w=1+a.w+A.w:=by rw[dN.kU];simp[dN.jQ,dN.iD];omega
  simp[d,i,show¬z=1 by omega,show¬z=2 by omega,show¬z=3 by omega];refine gY E dt ⟨W,s,q,v,a,I⟩ ⟨⟨rfl,o,k,y,l,dw⟩,dw⟩ ?_;rintro _ Q ⟨rfl,j,F,C,D,n⟩;simp only at j C D n;have l2:=l1.step j;simp only[nq]at l2;simp[d,i,l2.get,nJ];refine gY E dt ⟨W,s,F,v,A,_⟩ ⟨⟨rfl,n,k,y,S,dw⟩,dw⟩ ?_;rintro _ aA ⟨rfl,G,an,Z,ae,M⟩;simp only at G Z ae M;have l3:=l2.step G;simp[d,i,l3.get,nJ];refine nQ dt M dq λx h g=> ?_;simp;exact⟨rfl,(((r.trans j).trans G).trans h).out,an+1,dw,dw,g.out⟩
abbrev M1:kH:=js Jt (λa b c=>Eg a b c/\a.e.w<10000001) AQ
def QJ:M1.Ok Tryz.prog cx 198:=yG (λa:Jt=>a.e.w) Mt 10000001
def Hz{g:fy}{n:Nat}{W:dU}{f:List (List Nat)}{d b:Nat}{a:dN}{k:Int}{i:H}{o:af Oper}{l:aa Tmp}{m:List Oper}{q p:fN}{j:iB}(ht:g.h 198=some M1)(y:Gn W f d i b)(u:okW W)(s:f.length<=1000000)(v:ME a)(x:d+a.w<=10000000)
 (r:∀c e,Step b i c->d<e->e<=d+a.w->Gn W f e c b->XK (some (.tuple [],c)) cx (qp Tryz.prog cx g) n o l m q p j):XK (hl Tryz.prog cx g 198 [.ptr b 0 0 0,a.t,dy k] i) cx (qp Tryz.prog cx g) n o l m q p j:=
 gY QJ ht ⟨W,f,d,b,a,k⟩ ⟨⟨rfl,y,u,s,v,x⟩,dw⟩ (by rintro _ c ⟨rfl,C,e,z,A,B⟩;exact r c e C z A B)
structure VS where
 (W:dU) (L:List (List Nat)) (n g:Nat) (s:dJ)
def Bx(a:VS)(b:List T)(c:H):Prop:=b=[.ptr a.g 0 0 0,a.s.t]/\Gn a.W a.L a.n c a.g/\okW a.W/\a.L.length<=1000000/\MS a.s/\a.n+a.s.w<=10000000
def xc(a:VS)(f:List T)(d:H)(e:T)(c:H):Prop:=e= .tuple []/\Step a.g d c/\∃b,a.n<=b/\b<=a.n+a.s.w/\Gn a.W a.L b c a.g
def IA:(js VS (λv y a=>Bx v y a/\v.s.op=1) xc).Ok Tryz.prog cx 194:=by
 refine jo (tb:=⟨pt [(110,AO),(231,qk)],ht [(96,js CJ ud ql),(198,M1)]⟩) ew ej (iQ 36893488147419136123 [] Tryz.func194) (λ_ _=>5) (λv y a V=>by obtain⟨⟨rfl,_⟩,_⟩:=V;simp[Tryz.f194]) ?_;rintro⟨W,H,n,K,j⟩ _ a ⟨⟨rfl,c,e,o,q,T⟩,u⟩ bn C;simp only at c e o q T u;simp at C;obtain⟨b,M⟩:=C;obtain⟨m,R,S⟩:=e.2.2.2.2.2;have a6:=c.lt;have U:(K=a.size)=False:=du;obtain⟨bl,a7,bk,next,O,A,gO,aX⟩:=c.ex;simp only[sr]at A;have E:=c.hr.cons (dA 11 0 [j.t]);have l1:=Lb.new c.hr.lt c.hr.fp (dA 11 0 [j.t]);have x:=Step.cons c.ok.hr c.hr.lt (dA 11 0 [j.t]);have J:=λ{tb:fy} (a:tb.p 110=some AO) l=>Mr a H l dq;have z:=λ{tb:fy} (a:tb.p 231=some qk) l=>Kz a W l e.1;have Y:=j.kU;have D:=q.ex (.inl u);simp[Tryz.f194,b,M,A,U];cases g:j.index with
 |cons l r=>
  have X:=q.arr u (by rw[g];simp);have Z:=q.ind l (by rw[g];simp);rw[g,dN.jQ]at Y;simp[b,g];refine Hz dt E e o Z dq λN w f ap av h=> ?_;have l2:=l1.step f;simp only[nq]at l2;simp[b,l2.get,nJ];refine Hz dt h e o D dq λaN ae G a8 bi F=> ?_;have l3:=l2.step G;obtain⟨aE,an,aA,al,I,d,L,P⟩:=F.ex;simp only[sr]at d;simp[b,l3.get,d,z,X,S,R,nJ];refine nQ dt F dq λB k i=> ?_;simp;exact⟨rfl,(((x.trans f).trans G).trans k).out,ae+1,dw,dw,i.out⟩
 |nil=>
  simp[b,g];refine Hz dt E e o D dq λN w f ap av h=> ?_;have l2:=l1.step f;simp only[nq]at l2;obtain⟨aE,an,aA,al,I,d,L,P⟩:=h.ex;simp only[sr]at d;simp[b,l2.get,d,J];refine dW (λQ=> ?_) (λQ=> ?_)
  ·simp[b];refine nQ dt h dq λB k i=> ?_;simp;exact⟨rfl,((x.trans f).trans k).out,w+1,dw,dw,i.out⟩
  ·simp[b,l2.get,d,z];refine nQ dt h dq λB k i=> ?_;simp;exact⟨rfl,((x.trans f).trans k).out,w+1,dw,dw,i.out⟩
def Ef:kH:=⟨λd a=>∃W c f b h,d=[.ptr b 0 0 0,.str h]/\Gn W c f a b/\okW W,λ_ a g e=>e=a/\DJ g⟩
def N7:Ef.Ok Tryz.prog cx 197:=by
 refine HT (tb:=⟨pt [],ht []⟩) ew ej (iQ 67117107 [] Tryz.func197) false (λ_ _=>1000005) (λt f q=>by obtain⟨W,l,r,i,k,rfl,_⟩:=q;simp[Tryz.f197]) ?_;rintro _ f ⟨W,l,r,i,k,rfl,e,m⟩ b j;simp at j;obtain⟨a,c⟩:=j;obtain⟨y,w,x,next,s,g,gO,u⟩:=e.ex;simp only[sr]at g;have hl:=m.2.2.1;simp[Tryz.f197];refine fh W.fZ.length dq (λe b h=>h=hr f/\dB b 0 (.ptr i 0 0 0)/\dB b 1 (.str k)/\dB b 5 (dy e)) ?_ ?_ dq (by simp[a,c])
 ·rintro v b h p n ⟨rfl,a,c,d⟩;simp[a,c,d,g,p];refine dW (λo=> ?_) (λo=> ?_)
  ·simp[d];exact pA f _ _ e.ok.hp (Fr.refl _ _) rfl ⟨rfl,dt⟩
  ·simp[a,c,d,n]
 ·rintro b h ⟨rfl,a,c,d⟩;simp[a,d,g];exact pA f _ _ e.ok.hp (Fr.refl _ _) rfl ⟨rfl,dt⟩
def Gn.YO{W:dU}{r:List (List Nat)}{a:Nat}{j:H}{h:Nat}(u:Gn W r a j h)(x:0<a):∃p o next,∃b:List fI,∃c g q k f,j.get h=some (dA 10 p [.agg (sr W r (.arr c g 0 a false) o next)])/\j.get c=some ⟨6,g,q,k,false,f⟩/\c≠h/\Fp j h c/\f.take a=b.map fI.t/\b.length=a/\∀e,e<a->∃w:fI,f[e]? =some w.t:=by
 obtain⟨p,y,o,next,b,i,gO,n⟩:=u.ex;rcases gO with⟨_,d⟩|⟨c,g,q,k,f,rfl,d,m⟩
 ·simp at d;subst d;simp at n;omega
 rw[aH,n]at i m;refine⟨p,o,next,b,c,g,q,k,f,i,d,λv=>by subst v;rw[i]at d;simp at d,.inr ⟨_,i,.arr c g 0 a false,by simp[fa,T.cells,sr],rfl⟩,m,n,λe s=>⟨b[e],?_⟩⟩;have:(f.take a)[e]? =(b.map fI.t)[e]? :=by rw[m]
 rw[bJ,aq s,aQ,az (l:=b) dq]at this;exact this
def QE(W:dU)(e:List (List Nat))(d b g:Nat)(f c:H):Prop:=Step b f c/\∃a,d<=a/\a<=d+g/\Gn W e a c b
structure aaq where
 (W:dU) (L:List (List Nat)) (n g:Nat) (l:List dJ)
def Ug(a:aaq)(b:List T)(c:H):Prop:=b=[.ptr a.g 0 0 0,sl (a.l.map dJ.t)]/\Gn a.W a.L a.n c a.g/\okW a.W/\a.L.length<=1000000/\(∀d∈a.l,MS d)/\a.n+dJ.ws a.l<=10000000
abbrev CS(e:Nat):kH:=js aaq (λa c b=>Ug a c b/\dJ.ws a.l<e) (λa _ b f d=>f= .tuple []/\QE a.W a.L a.n a.g (dJ.ws a.l) b d)
abbrev rSt(d:Nat):kH:=js VS (λa b c=>Bx a b c/\a.s.w<d) xc
def Kx{j:Nat}(z:(CS j).Ok Tryz.prog cx 95){g:fy}{n:Nat}{W:dU}{f:List (List Nat)}{d b:Nat}{a:List dJ}{i:H}{o:af Oper}{l:aa Tmp}{m:List Oper}{q p:fN}{k:iB}(ht:g.h 95=some (CS j))(y:Gn W f d i b)(u:okW W)(s:f.length<=1000000)(x:∀D∈a,MS D)(w:d+dJ.ws a<=10000000)(v:dJ.ws a<j)
 (r:∀c e,Step b i c->d<=e->e<=d+dJ.ws a->Gn W f e c b->XK (some (.tuple [],c)) cx (qp Tryz.prog cx g) n o l m q p k):XK (hl Tryz.prog cx g 95 [.ptr b 0 0 0,sl (a.map dJ.t)] i) cx (qp Tryz.prog cx g) n o l m q p k:=
 gY z ht ⟨W,f,d,b,a⟩ ⟨⟨rfl,y,u,s,x,w⟩,v⟩ (by rintro _ c ⟨rfl,a,e,A,B,C⟩;exact r c e a A B C)
def As(Y:Nat)(aE:(CS Y).Ok Tryz.prog cx 95):(js VS (λi a N=>(Bx i a N/\i.s.w<Y+1)/\(i.s.op=2\/i.s.op=3)) xc).Ok Tryz.prog cx 195:=by
 refine jo (tb:=⟨pt [],ht [(96,js CJ ud ql),(198,M1),(95,CS Y)]⟩) ew ej (iQ 590296373308659073275 [] Tryz.func195) (λ_ _=>5) (λi a N b8=>by obtain⟨⟨⟨rfl,_⟩,_⟩,_⟩:=b8;simp[Tryz.f195]) ?_;rintro⟨W,M,n,o,T⟩ _ N ⟨⟨⟨rfl,l,R,P,Q,b6⟩,bS⟩,aA⟩ eF av;simp only at l R P Q b6 aA bS;simp at av;obtain⟨g,bu⟩:=av;have ea:=l.lt;have b7:(o=N.size)=False:=du;obtain⟨eB,eh,cL,next,O,al,gO,dv⟩:=l.ex;simp only[sr]at al;have b9:=l.hr.cons (dA 11 0 [T.t]);have l1:=Lb.new l.hr.lt l.hr.fp (dA 11 0 [T.t]);have c1:=Step.cons l.ok.hr l.hr.lt (dA 11 0 [T.t]);have eb:=T.kU;have bT:=Q.ex (by rcases aA with q|q<;>simp[q]);simp[Tryz.f195,g,bu,al,b7,gO.len (cx:=cx)];refine Hz dt b9 R P bT dq λdi j a7 p1 p2 aN=> ?_;have l2:=l1.step a7;simp only[nq]at l2;obtain⟨eC,eo,eu,ec,c9,an,bl,bB⟩:=aN.ex;simp only[sr]at an;simp[g,an,bl.len (cx:=cx),bB];refine nQ dt aN dq λdk a8 ca=> ?_;have l3:=l2.step a8;simp[g,l3.get];refine Kx aE dt ca R P Q.bd dq dq λbz e bi p3 p4 aX=> ?_;have l4:=l3.step bi;obtain⟨eD,er,ey,cv,dd,V,bn,bC⟩:=aX.ex;obtain⟨Z,A⟩:=aX.Gu V bn bC cL cv;simp only[sr]at V Z A;have l5:=l4.step Z;have ae:=(((c1.trans a7).trans a8).trans bi).trans Z;simp[g,V,dS];generalize dT bz o _=dm at*
 simp[l5.get];refine dW (λX=> ?_) (λX=> ?_)
 ·simp[g];refine nQ dt A dq λE U G=> ?_;obtain⟨J,I,H,B,z,C,K,D,L,d,f,r,p,v,F,u⟩:=G.YO dq;obtain⟨x,k⟩:=u j dq;have h:j<e+1:=dq;obtain⟨m,y⟩:=G.elem (i:=j) (x:=⟨x.op,x.a,((e+1:Nat):Int),x.c,x.n,x.iS⟩) f p r ⟨J,_,I,H,B,d,rfl,v,F,h⟩;simp only[sr]at d;simp[g,d,f,k,h];exact⟨rfl,((ae.trans U).trans (by simpa using m)).out,e+1,dw,dw,(by simpa using y:Gn W M (e+1) _ o).out⟩
 simp[l5.get];refine dW (λX=> ?_) (λX=> ?_)
 ·simp[g];obtain⟨J,I,H,B,z,C,K,D,L,d,f,r,p,v,F,u⟩:=A.YO dq;obtain⟨x,k⟩:=u j dq;have h:j<e:=dq;obtain⟨m,y⟩:=A.elem (i:=j) (x:=⟨x.op,x.a,(e:Int),x.c,x.n,x.iS⟩) f p r ⟨J,_,I,H,B,d,rfl,v,F,h⟩;simp only[sr]at d;simp[g,d,f,k,h];exact⟨rfl,(ae.trans (by simpa using m)).out,e,dw,dw,(by simpa using y:Gn W M e _ o).out⟩
 obtain⟨eE,et,eA,ef,de,ap,bs,bH⟩:=A.ex;simp only[sr]at ap;simp[g,ap,bs.len (cx:=cx),bH];refine nQ dt A dq λE U G=> ?_;have l6:=l5.step U;obtain⟨J,I,H,B,z,C,K,D,L,d,f,r,p,v,F,u⟩:=G.YO dq;obtain⟨x,k⟩:=u j dq;have h:j<e+1:=dq;obtain⟨m,y⟩:=G.elem (i:=j) (x:=⟨x.op,x.a,((e+1:Nat):Int),x.c,x.n,x.iS⟩) f p r ⟨J,_,I,H,B,d,rfl,v,F,h⟩;simp only[sr]at d;simp[g,d,f,k,h];replace m:Step o E (dT E z ⟨6,C,K+1,D,false,L.set j (fI.t ⟨x.op,x.a,(e:Int)+1,x.c,x.n,x.iS⟩)⟩):=by simpa using m
 replace y:Gn W M (e+1) (dT E z ⟨6,C,K+1,D,false,L.set j (fI.t ⟨x.op,x.a,(e:Int)+1,x.c,x.n,x.iS⟩)⟩) o:=by simpa using y
 have ce:=l6.step m;generalize dT E z _=dn at*
 clear d f k;simp[ce.get];refine Kx aE dt y R P Q.el dq dq λds S c4 p5 p6 a6=> ?_;have FO:=((ae.trans U).trans m).trans c4;obtain⟨c7,cy,cp,bk,z,C,K,D,L,d,f,r,p,v,bN,u⟩:=a6.YO dq;obtain⟨x,k⟩:=u e dq;have h:e<S:=dq;obtain⟨c6,cb⟩:=a6.elem (i:=e) (x:=⟨x.op,(S:Int),x.b,x.c,x.n,x.iS⟩) f p r ⟨c7,_,cy,cp,bk,d,rfl,v,bN,h⟩;simp only[sr]at d;simp[g,d,f,k,h];exact⟨rfl,(FO.trans (by simpa using c6)).out,S,dw,dw,(by simpa using cb:Gn W M S _ o).out⟩
structure IAr where
 (W:dU) (L:List (List Nat)) (n g:Nat) (s:dJ) (a b o:Int)
def tS(j:Nat)(N:(CS j).Ok Tryz.prog cx 95):(js IAr (λc A e=>A=[.ptr c.g 0 0 0,c.s.t,dy c.a,dy c.b,dy c.o]/\Bx ⟨c.W,c.L,c.n,c.g,c.s⟩ [.ptr c.g 0 0 0,c.s.t] e/\c.s.w<j+1) (λc _ e U D=>xc ⟨c.W,c.L,c.n,c.g,c.s⟩ [] e U D)).Ok Tryz.prog cx 196:=by
 refine jo (tb:=⟨pt [],ht [(96,js CJ ud ql),(95,CS j)]⟩) ew ej (iQ 1119 [] Tryz.func196) (λ_ _=>5) (λc z e M=>by obtain⟨rfl,_⟩:=M;simp[Tryz.f196]) ?_;rintro⟨W,L,n,B,f,z,b,o⟩ _ e ⟨rfl,⟨_,d,q,m,p,J⟩,I⟩ bi r;simp only at d q m p J I;simp at r;obtain⟨i,E,F,G,l⟩:=r;have aA:=d.lt;have K:(B=e.size)=False:=du;obtain⟨a7,aN,V,next,O,k,gO,av⟩:=d.ex;simp only[sr]at k;have P:=d.hr.cons (dA 11 0 [f.t]);have l1:=Lb.new d.hr.lt d.hr.fp (dA 11 0 [f.t]);have X:=Step.cons d.ok.hr d.hr.lt (dA 11 0 [f.t]);have aE:=f.kU;simp[Tryz.f196,i,E,F,l,k,K];refine nQ dt P dq λal x Q=> ?_;have l3:=l1.step x;simp only[nq]at l3;simp[i,l3.get];refine Kx N dt Q q m p.bd dq dq λan S Y p3 p4 u=> ?_;obtain⟨a8,aX,a6,T,ae,h,C,H⟩:=u.ex;obtain⟨y,v⟩:=u.Gu h C H V T;simp only[sr]at h y v;simp[i,G,l,h,dS];refine nQ dt v dq λap Z R=> ?_;simp;exact⟨rfl,((((X.trans x).trans Y).trans y).trans Z).out,S+1,dw,dw,R.out⟩
def MG(m:Nat)(E:(rSt m).Ok Tryz.prog cx 148):(CS m).Ok Tryz.prog cx 95:=by
 refine jo (tb:=⟨pt [],ht [(148,rSt m)]⟩) ew ej (iQ 275 [] Tryz.func95) (λ_ _=>10000005) (λc G r D=>by obtain⟨⟨rfl,_⟩,_⟩:=D;simp[Tryz.f95]) ?_;rintro⟨W,q,n,f,l⟩ _ r ⟨⟨rfl,j,v,s,u,C⟩,B⟩ d w;simp only at j v s u C B;simp at w;obtain⟨e,b⟩:=w;have hl:=dJ.ul (l:=l);simp[Tryz.f95];refine fh l.length dq (λc d g=>Step f (hr r) g/\(∃a,n<=a/\a<=n+dJ.ws (l.take c)/\Gn W q a g f)/\dB d 0 (.ptr f 0 0 0)/\dB d 1 (sl (l.map dJ.t))/\dB d 4 (dy c)) ?_ ?_ dq (by simp[e,b,Step.refl j.ok.hr];exact⟨n,au _,dq,j.hr⟩)
 ·rintro c d g i A ⟨p,⟨a,y,o,k⟩,e,b,h⟩;have K:=dJ.D6 l i;have J:=dJ.wU l (c+1);have I:=dJ.uK (aF i);simp[e,b,h,i];refine gY E dt ⟨W,q,a,f,l[c]⟩ ⟨⟨rfl,k,v,s,u _ (aF i),dw⟩,dw⟩ ?_;rintro _ H ⟨rfl,z,F,p1,p2,x⟩;simp only at z p1 p2 x;simp[e,b,h,A];exact⟨p.trans z,F,dq,dq,x⟩
 ·rintro d g ⟨p,⟨a,y,o,k⟩,e,b,h⟩;rw[aL]at o;simp[b,h];exact⟨p.out,a,y,o,k.out⟩
def Qu(A:Nat)(K:(CS A).Ok Tryz.prog cx 95):(rSt (A+1)).Ok Tryz.prog cx 148:=by
 obtain⟨F,a6⟩:=hlI N7 (λ_ _ _ _ G=>G);refine jo (tb:=⟨pt [(110,AO),(146,qg)],ht [(96,js CJ ud ql),(198,M1),(194,js VS (λe M i=>Bx e M i/\e.s.op=1) xc),(195,js VS (λe M i=>(Bx e M i/\e.s.w<A+1)/\(e.s.op=2\/e.s.op=3)) xc),
  (196,js IAr (λe ap i=>ap=[.ptr e.g 0 0 0,e.s.t,dy e.a,dy e.b,dy e.o]/\Bx ⟨e.W,e.L,e.n,e.g,e.s⟩ [.ptr e.g 0 0 0,e.s.t] i/\e.s.w<A+1) (λe _ i r j=>xc ⟨e.W,e.L,e.n,e.g,e.s⟩ [] i r j)),(197,Ef)]⟩) ew ej (iQ 365376106316094180278949616271352870286206697499 [(11,[(1,9)]),(13,[(1,9)]),(15,[(1,9)]),(34,[(7,12),(7,14)])] Tryz.func148) (λ_ _=>5) (λe M i bi=>by obtain⟨⟨rfl,_⟩,_⟩:=bi;simp[Tryz.f148]) ?_
 rintro⟨W,B,k,y,l⟩ _ i ⟨⟨rfl,G,x,D,E,I⟩,J⟩ dv Y;simp only at G x D E I J;simp at Y;obtain⟨C,aX⟩:=Y;have ca:=G.lt;have cb:(y=i.size)=False:=du;obtain⟨di,cy,c7,next,O,aA,gO,b7⟩:=G.ex;have ae:=G.hr.cons (dA 11 0 [l.t]);have l1:=Lb.new G.hr.lt G.hr.fp (dA 11 0 [l.t]);have bs:=Step.cons G.ok.hr G.hr.lt (dA 11 0 [l.t]);have ce:=l.kU;obtain⟨dk,cL,c9,an,bz,Q,aE,a7⟩:=ae.ex;obtain⟨T,S⟩:=ae.Gu Q aE a7 an an;obtain⟨dm,c1,bn,bl,bB,R,aN,a8⟩:=S.ex;obtain⟨U,f⟩:=S.Gu R aN a8 bn (IntKind.i64.wrap (bl+1));have l3:=(l1.step T).step U;simp only[sr,nq]at aA Q T S R U f l3;simp[Tryz.f148,C,aX,Q,dS,R,nJ];have m:=(bs.trans T).trans U;have N:=λ{tb:fy} (ht:tb.h 197=some Ef) H=>a6 ht [.ptr y 0 0 0,.str H] _ ⟨W,B,k,y,H,rfl,f,x⟩;generalize dT (dT _ y _) y _=bT at*
 obtain⟨dn,c4,dd,cp,bC,z,bN,b8⟩:=f.ex;simp only[sr]at z;have av:=λ{tb:fy} (i:tb.p 110=some AO) H=>Mr i B H dq;have eT:=λ{tb:fy} (i:tb.p 110=some AO) H=>Mr i W.dE H (by have:=x.2.2.2.2.1;omega);have V:=λ{tb:fy} (i:tb.p 110=some AO) H=>Mr i W.dX H (by have:=x.2.2.2.1;omega);have P:=λ{tb:fy} (i:tb.p 146=some qg) H=>Ky i W.dY H x.2.1;simp[z,l3.get]
 repeat' (refine dW (λZ=> ?_) (λZ=> ?_)<;>simp[Z,C,l3.get])
 ·try simp[C,l3.get]
  refine gY IA dt ⟨W,B,k,y,l⟩ ⟨⟨rfl,f,x,D,E,I⟩,by simpa using‹decide (l.op=1)=true›⟩ ?_;rintro _ j ⟨rfl,c,q,u,v,d⟩;simp;exact⟨rfl,(m.trans c).out,q,u,v,d.out⟩
 ·try simp[C,l3.get]
  refine gY (As A K) dt ⟨W,B,k,y,l⟩ ⟨⟨⟨rfl,f,x,D,E,I⟩,J⟩,.inl (by simpa using‹decide (l.op=2)=true›)⟩ ?_;rintro _ j ⟨rfl,c,q,u,v,d⟩;simp;exact⟨rfl,(m.trans c).out,q,u,v,d.out⟩
 ·try simp[C,l3.get]
  refine gY (As A K) dt ⟨W,B,k,y,l⟩ ⟨⟨⟨rfl,f,x,D,E,I⟩,J⟩,.inr (by simpa using‹decide (l.op=3)=true›)⟩ ?_;rintro _ j ⟨rfl,c,q,u,v,d⟩;simp;exact⟨rfl,(m.trans c).out,q,u,v,d.out⟩
 ·simp[l3.get,z,P];refine lP (tS A K) dt ⟨W,B,k,y,l,11,12,_⟩ ⟨rfl,⟨rfl,f,x,D,E,I⟩,J⟩ ?_;rintro _ j ⟨rfl,c,q,u,v,d⟩;simp;exact⟨rfl,(m.trans c).out,q,u,v,d.out⟩
 ·simp[l3.get,z,P];refine lP (tS A K) dt ⟨W,B,k,y,l,13,14,_⟩ ⟨rfl,⟨rfl,f,x,D,E,I⟩,J⟩ ?_;rintro _ j ⟨rfl,c,q,u,v,d⟩;simp;exact⟨rfl,(m.trans c).out,q,u,v,d.out⟩
 ·simp[l3.get,z,P];refine lP (tS A K) dt ⟨W,B,k,y,l,15,16,_⟩ ⟨rfl,⟨rfl,f,x,D,E,I⟩,J⟩ ?_;rintro _ j ⟨rfl,c,q,u,v,d⟩;simp;exact⟨rfl,(m.trans c).out,q,u,v,d.out⟩
 ·try simp[C,l3.get,z]
  refine gY (tS A K) dt ⟨W,B,k,y,l,17,18,_⟩ ⟨rfl,⟨rfl,f,x,D,E,I⟩,J⟩ ?_;rintro _ j ⟨rfl,c,q,u,v,d⟩;simp;exact⟨rfl,(m.trans c).out,q,u,v,d.out⟩
 ·try simp[C,l3.get,z]
  refine gY (tS A K) dt ⟨W,B,k,y,l,19,20,_⟩ ⟨rfl,⟨rfl,f,x,D,E,I⟩,J⟩ ?_;rintro _ j ⟨rfl,c,q,u,v,d⟩;simp;exact⟨rfl,(m.trans c).out,q,u,v,d.out⟩
 ·simp[N];refine nQ dt f dq λj c d=> ?_;simp;exact⟨rfl,(m.trans c).out,k+1,dw,dw,d.out⟩
 ·simp[N];refine nQ dt f dq λj c d=> ?_;simp;exact⟨rfl,(m.trans c).out,k+1,dw,dw,d.out⟩
 ·simp[N];refine nQ dt f dq λj c d=> ?_;simp;exact⟨rfl,(m.trans c).out,k+1,dw,dw,d.out⟩
 ·simp[l3.get,z,eT];refine nQ dt f dq λj c d=> ?_;simp;exact⟨rfl,(m.trans c).out,k+1,dw,dw,d.out⟩
 ·simp[l3.get,z,eT];refine nQ dt f dq λj c d=> ?_;simp;exact⟨rfl,(m.trans c).out,k+1,dw,dw,d.out⟩
 ·try simp[C,l3.get,z]
  refine Hz dt f x D (E.ex (.inr (.inr (.inr (by simpa using‹decide (l.op=14)=true›))))) dq λb6 bk c p1 p2 al=> ?_;obtain⟨ds,c6,de,cv,bH,X,bS,b9⟩:=al.ex;simp only[sr]at X;simp[C,(l3.step c).get,X,V];refine nQ dt al dq λj bu d=> ?_;simp;exact⟨rfl,((m.trans c).trans bu).out,bk+1,dw,dw,d.out⟩
 ·simp[C,l3.get,z,av,V];refine Z9 dt f dq λj c d=> ?_;simp;exact⟨rfl,(m.trans c).out,k+1,dw,dw,d.out⟩
 ·exact⟨rfl,m.out,k,au _,dw,f.out⟩
def Li(a:Nat):(CS a).Ok Tryz.prog cx 95:=by
 induction a with
 |zero=>intro d e ⟨f,_,b⟩;exact absurd b (Nat.not_lt_zero _)
 |succ a c=>exact MG (a+1) (Qu a c)
end
end Go.Proofs.YtmaeadedikngoaaGreatDoor
