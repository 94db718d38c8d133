/- Texts W06m to W06n. -/
import Derived.Test.YtmaeadedikngoaaGreatDoorA28
set_option linter.unusedVariables false
set_option linter.unusedSimpArgs false
set_option linter.defProp false
set_option maxRecDepth 100000
set_option maxHeartbeats 8000000
namespace Go.Proofs.YtmaeadedikngoaaGreatDoor
noncomputable section
open Go Go.TI
attribute [-simp] List.map_take List.map_drop List.map_append fj eG dY Bool.not_or Bool.not_and
attribute [simp] fh eJ
def qf:f7:=⟨dR×List Nat,λa=>[a.1.t,.str a.2],λa=>a.1.cells.length<=1000000,λa=> dw (rj (a.1.cells.map fZ.name) a.2 0),λa c b=>by
 simp at b;rw[dR.inj b.1,b.2]⟩
def N1:qf.Ok Tryz.prog cx 231:=by
 refine gH (tb:=⟨pt [],ht []⟩) ei eg (iL 1049655 [] Tryz.func231) (λo=>o.1.cells.length+1) (by simp[qf]) (by simp[qf,Tryz.f231]) ?_;rintro⟨k,l⟩ hl b m;simp[qf]at hl m|-;obtain⟨p,c⟩:=m;simp[Tryz.f231,p];refine fc k.cells.length dj (λi b g=>gu 1 g/\g.get 0=some (dy 6 0 [k.t])/\dz b 1 (.str l)/\dz b 2 (.ptr 0 0 0 0)/\dz b 5 (dw i)/\rj ((k.cells.drop i).map fZ.name) l i=rj (k.cells.map fZ.name) l 0) ?_ ?_ dj (by simp[c])
 ·rintro i b g n q ⟨j,f,c,h,d,a⟩;rw[aI n,aR,rj]at a;simp[f,c,h,d,n];refine dU (λe=> ?_) (λe=> ?_)
  ·simp at e;rw[aq e]at a;simp[d,<-a,j.hp]
  ·simp at e;rw[ao e]at a;simp[f,c,h,d,q,a,j]
 ·rintro b g ⟨j,f,c,h,d,a⟩;simp[rj]at a;simp[f,h,d,<-a,j.hp]
def Kq{c:fq}(ht:c.p 231=some qf)(a:dR)(b:List Nat)(hl:a.cells.length<=1000000):rl Tryz.prog cx c 231 [a.t,.str b]=some (dw (rj (a.cells.map fZ.name) b 0)):=gF ht N1 (a,b) hl
def p8:f7:=⟨List ij×List Nat,λa=>[sl (a.1.map ij.t),.str a.2],λa=>a.1.length<=1000000,λa=> dw (rj (a.1.map ij.name) a.2 0),λa c b=>by
 simp at b;rw[jt (λ_ _=>ij.inj) b.1,b.2]⟩
def NE:p8.Ok Tryz.prog cx 146:=by
 refine gH (tb:=⟨pt [],ht []⟩) ei eg (iL 262707 [] Tryz.func146) (λm=>m.1.length+1) (by simp[p8]) (by simp[p8,Tryz.f146]) ?_;rintro⟨h,j⟩ hl c k;simp[p8]at hl k|-;obtain⟨b,d⟩:=k;simp[Tryz.f146];refine fc h.length dj (λg c i=>i=hE/\dz c 0 (sl (h.map ij.t))/\dz c 1 (.str j)/\dz c 5 (dw g)/\rj ((h.drop g).map ij.name) j g=rj (h.map ij.name) j 0) ?_ ?_ dj (by simp[b,d])
 ·rintro g c i l n ⟨rfl,b,d,e,a⟩;rw[aI l,aR,rj]at a;simp[b,d,e,l];refine dU (λf=> ?_) (λf=> ?_)
  ·simp at f;rw[aq f]at a;simp[e,<-a]
  ·simp at f;rw[ao f]at a;simp[b,d,e,n,a]
 ·rintro c i ⟨rfl,b,d,e,a⟩;simp[rj]at a;simp[b,e,<-a]
def Ko{c:fq}(ht:c.p 146=some p8)(a:List ij)(b:List Nat)(hl:a.length<=1000000):rl Tryz.prog cx c 146 [sl (a.map ij.t),.str b]=some (dw (rj (a.map ij.name) b 0)):=gF ht NE (a,b) hl
def sd(W:dR)(a:List (List Nat))(b:T)(c next:Int):List T:=
 [sl (W.cells.map fZ.t),sl (W.dV.map ij.t),sl (W.fV.map iB.t),sl (W.dT.map T.str),sl (W.dB.map T.str),sl (W.ik.map il.t),sl (a.map T.str),b,dw c,dw next]
structure Gn(W:dR)(L:List (List Nat))(n:Nat)(h:H)(g:Nat):Prop where
 ok:gu 0 h
 fp:∀b,Fp h g b->b<h.size
 ex:∃ver ov iO next,∃O:List fF,h.get g=some (dy 10 ver [.agg (sd W L ov iO next)])/\Gr h ov 6 (O.map fF.t)/\O.length=n
def Gn.lt{W:dR}{c:List (List Nat)}{e:Nat}{b:H}{a:Nat}(d:Gn W c e b a):a<b.size:=d.fp a (.inl rfl)
def Gn.same{W:dR}{f:List (List Nat)}{k:Nat}{c d:H}{b:Nat}(j:Gn W f k c b)(q:gu 0 d)(h:∀a,Fp c b a->d.get a=c.get a)(p:c.size<=d.size):Gn W f k d b:=by
 obtain⟨s,l,r,next,m,g,n,o⟩:=j.ex;have i:=h b (.inl rfl);exact⟨q,λa e=>by rw[iE i]at e;exact bE (j.fp a e) p,s,l,r,next,m,by rw[i];exact g,n.mono λa e=>h a (.inr ⟨_,g,l,by simp[eQ,T.cells,sd],e⟩),o⟩
def Gn.cons{W:dR}{b:List (List Nat)}{e:Nat}{d:H}{c:Nat}(a:Gn W b e d c)(f:iJ):Gn W b e (d.cons f) c:=
 a.same (a.ok.cons f) (λg h=>by rw[dM,ao (by have:=a.fp g h;omega)]) dp 
def Gn.hr{W:dR}{b:List (List Nat)}{e:Nat}{a:H}{c:Nat}(d:Gn W b e a c):Gn W b e (TI.hr a) c:=d.same d.ok.hr (λf _=>fX a f) (au _)
def Gn.out{W:dR}{b:List (List Nat)}{e:Nat}{h a:H}{c:Nat}(d:Gn W b e a c):Gn W b e (lA h a) c:=d.same (d.ok.out h) (λf _=>fK h a f) (au _)
def Gn.Gx{W:dR}{a:List (List Nat)}{h b f:Nat}{c:H}{d:T}{q next:Int}{g:List fF}(k:Gn W a h c b)(l:c.get b=some (dy 10 f [.agg (sd W a d q next)]))(gO:Gr c d 6 (g.map fF.t))(m:g.length=h)(e next':Int):
 Step b c (dQ c b (dy 10 (f+1) [.agg (sd W a d e next')]))/\Gn W a h (dQ c b (dy 10 (f+1) [.agg (sd W a d e next')])) b:=by
 obtain⟨i,n,o,p⟩:=AJ k.ok k.fp l (cells':=sd W a d e next') (λr j=>by
  simp[sd]at j|-;rcases j with rfl|rfl|rfl|rfl|rfl|rfl|rfl|rfl|rfl|rfl<;>simp) _ rfl
 exact⟨i,⟨i.ok.hp,i.ok.low,aw _⟩,n,f+1,d,e,next',g,o,p _ _ _ gO du,m⟩
def Gn.app{W:dR}{b:List (List Nat)}{n a f:Nat}{c d:H}{h j:T}{e next:Int}{g:List fF}{x:fF}(o:Gn W b n c a)(k:c.get a=some (dy 10 f [.agg (sd W b h e next)]))(gO:Gr c h 6 (g.map fF.t))(r:g.length=n)(s:AC c h 6 (g.map fF.t++[x.t]) j d):
 d.get a=some (dy 10 f [.agg (sd W b h e next)])/\ew c d a=true/\Step a c (dQ d a (dy 10 (f+1) [.agg (sd W b j e next)]))/\Gn W b (n+1) (dQ d a (dy 10 (f+1) [.agg (sd W b j e next)])) a:=by
 obtain⟨l,u⟩:=vM (i:=7) o.ok o.fp k rfl du gO s.xt;obtain⟨m,p,q,v⟩:=u _ rfl;exact⟨l.trans k,eZ l,m,⟨m.ok.hp,m.ok.low,aw _⟩,p,f+1,j,e,next,g++[x],by rw[dE (l.trans k),aq rfl],by rw[List.map_append];exact q,by simp[r]⟩
def Gn.elem{W:dR}{k:List (List Nat)}{g c b d h:Nat}{f:Bool}{a:H}{e:List T}{i:Nat}{x:fF}(u:Gn W k g a c)(m:a.get b=some ⟨6,d,h,f,false,e⟩)(A:Fp a c b)(r:b≠c)
 (B:∃q n o next,∃j:List fF,a.get c=some (dy 10 q [.agg (sd W k n o next)])/\n= .arr b d 0 g false/\e.take g=j.map fF.t/\j.length=g/\i<g):
 Step c a (dQ a b ⟨6,d,h+1,f,false,e.set i x.t⟩)/\Gn W k g (dQ a b ⟨6,d,h+1,f,false,e.set i x.t⟩) c:=by
 obtain⟨q,n,o,next,j,y,rfl,z,l,C⟩:=B;have p:=Step.Yq u.ok m A r ⟨6,d,h+1,f,false,e.set i x.t⟩;have s:(dQ a b ⟨6,d,h+1,f,false,e.set i x.t⟩).get c=a.get c:=by rw[dE m,ao (bg r)]
 refine⟨p,⟨p.ok.hp,p.ok.low,aw _⟩,λw v=>by rw[iE s]at v;rw[fG];exact u.fp w v,q,_,o,next,j.set i x,by rw[s];exact y,.inr ⟨b,d,h+1,f,e.set i x.t,by simp[l],by rw[dE m,aq rfl],?_⟩,by simp[l]⟩;rw[aH,cM,l,List.take_set,z,bR]
structure CB where
 (W:dR) (L:List (List Nat)) (n g:Nat) (i:fF)
def tW(a:CB)(b:List T)(c:H):Prop:=b=[.ptr a.g 0 0 0,a.i.t]/\Gn a.W a.L a.n c a.g/\a.n<=100000000
def qg(a:CB)(e:List T)(c:H)(d:T)(b:H):Prop:=d= .tuple []/\Step a.g c b/\Gn a.W a.L (a.n+1) b a.g
def JK:(jp CB tW qg).Ok Tryz.prog cx 96:=by
 refine jk (tb:=⟨pt [],ht []⟩) ei eg (iL 11 [] Tryz.func96) (λ_ _=>5) (λd M h H=>by obtain⟨rfl,_⟩:=H;simp[Tryz.f96]) ?_;rintro⟨W,v,P,j,d⟩ _ h ⟨rfl,f,F⟩ S p;simp only at f F;simp at p;obtain⟨B,C⟩:=p;have O:=f.lt;have G:(j=h.size)=False:=dq;obtain⟨L,l,e,next,y,g,gO,D⟩:=f.ex;have k:=(f.hr.cons (dy 6 1 [fF.t ⟨d.op,d.a,d.b,d.c,d.n,e⟩]));have q:=k.cons (dy 6 0 [fF.t ⟨d.op,d.a,d.b,d.c,d.n,e⟩]);have K:=(Step.cons (w:=j) f.ok.hr f.lt (dy 6 1 [fF.t ⟨d.op,d.a,d.b,d.c,d.n,e⟩])).trans (Step.cons k.ok k.lt (dy 6 0 [fF.t ⟨d.op,d.a,d.b,d.c,d.n,e⟩]));have A:(((hr h).cons (dy 6 1 [fF.t ⟨d.op,d.a,d.b,d.c,d.n,e⟩])).cons (dy 6 0 [fF.t ⟨d.op,d.a,d.b,d.c,d.n,e⟩])).get j=some (dy 10 L [.agg (sd W v l e next)]):=by
  rw[dM,ao dq,dM,ao dq,fX];exact g
 have o:Gr (((hr h).cons (dy 6 1 [fF.t ⟨d.op,d.a,d.b,d.c,d.n,e⟩])).cons (dy 6 0 [fF.t ⟨d.op,d.a,d.b,d.c,d.n,e⟩])) l 6 (y.map fF.t):=gO.mono λm E=>by
  have:m<h.size:=f.fp m (.inr ⟨_,g,l,by simp[eQ,T.cells,sd],E⟩);rw[dM,ao dq,dM,ao dq,fX]
 obtain⟨R,N,z,i⟩:=o.app (cx:=cx) q.ok (x:= .arr (h.size+1) 0 0 1 false) (xs:=[fF.t ⟨d.op,d.a,d.b,d.c,d.n,e⟩]) Kb rfl Rf Kb rfl rfl dp (by rw[fW];simp) dp dp dq;obtain⟨r,Q,I,J⟩:=q.app A o D i;have s:=(K.trans I).out;have u:=J.out (h:=h);simp only[sd]at g r s u;simp[Tryz.f96,B,C,g,G,z,r,i.gr.gD,i.gr.cells,dP];exact⟨rfl,s,u⟩
structure Jl where
 (W:dR) (L:List (List Nat)) (n g:Nat) (e:dK) (d:Int)
def okW(W:dR):Prop:=W.cells.length<=1000000/\W.dV.length<=1000000/\W.fV.length<=1000000/\W.dT.length<=1000000/\W.dB.length<=1000000/\∃a,a<W.cells.length/\rj (W.cells.map fZ.name) [113] 0=a
def Eu(a:Jl)(b:List T)(c:H):Prop:=b=[.ptr a.g 0 0 0,a.e.t,dw a.d]/\Gn a.W a.L a.n c a.g/\okW a.W/\a.L.length<=1000000/\ME a.e/\a.n+a.e.w<=10000000
def ada(W:dR)(e:List (List Nat))(d g b:Nat)(f c:H):Prop:=Step b f c/\∃a,d<a/\a<=d+g/\Gn W e a c b
def AI(a:Jl)(f:List T)(b:H)(d:T)(c:H):Prop:=d= .tuple []/\ada a.W a.L a.n a.e.w a.g b c
def nN{d:fq}{l:Nat}{W:dR}{e:List (List Nat)}{c a:Nat}{i:fF}{f:H}{m:af Oper}{j:aa Tmp}{k:List Oper}{o n:fJ}{g:iw}(ht:d.h 96=some (jp CB tW qg))(r:Gn W e c f a)(q:c<=100000000)
 (p:∀b,Step a f b->Gn W e (c+1) b a->XK (some (.tuple [],b)) cx (qk Tryz.prog cx d) l m j k o n g):XK (hl Tryz.prog cx d 96 [.ptr a 0 0 0,i.t] f) cx (qk Tryz.prog cx d) l m j k o n g:=
 gJ JK ht ⟨W,e,c,a,i⟩ ⟨rfl,r,q⟩ (by rintro _ b ⟨rfl,u,s⟩;exact p b u s)
def ZZ{e:fq}{p:Nat}{W:dR}{f:List (List Nat)}{d a:Nat}{l:fF}{b:H}{r:af Oper}{i:List (Nat×Nat)}{j:aa Tmp}{q:Op}{n:List Oper}{m:Nat}{o:List (Nat×Nat)}{k:List (Nat×H×H)}{u s:fJ}{g:iw}(ht:e.h 96=some (jp CB tW qg))(x:Gn W f d b a)(w:d<=100000000)
 (v:∀c,Step a b c->Gn W f (d+1) c a->PR (some (.tuple [],c)) cx (qk Tryz.prog cx e) p r i j q n m o k u s b g):PR (hl Tryz.prog cx e 96 [.ptr a 0 0 0,l.t] b) cx (qk Tryz.prog cx e) p r i j q n m o k u s b g:=
 lJ JK ht ⟨W,f,d,a,l⟩ ⟨rfl,x,w⟩ (by rintro _ c ⟨rfl,z,y⟩;exact v c z y)
def Mi(c:Nat)(E:(jp Jl (λf a b=>Eu f a b/\f.e.w<c) AI).Ok Tryz.prog cx 198):(jp Jl (λf a b=>Eu f a b/\f.e.w<c+1) AI).Ok Tryz.prog cx 198:=by
 refine jk (tb:=⟨pt [(110,AG),(231,qf)],ht [(96,jp CB tW qg),(198,jp Jl (λf a b=>Eu f a b/\f.e.w<c) AI)]⟩) ei eg (iL 20282409606012871684182924853463 [] Tryz.func198) (λ_ _=>5) (λf a b al=>by obtain⟨⟨rfl,_⟩,_⟩:=al;simp[Tryz.f198]) ?_;rintro⟨W,s,q,v,u,I⟩ _ b ⟨⟨rfl,c,k,y,hE,Y⟩,U⟩ bz l;simp only at c k y hE Y U;simp at l;obtain⟨d,P,i⟩:=l;obtain⟨m,V,X⟩:=k.2.2.2.2.2;have a6:=c.lt;have L:(v=b.size)=False:=dq;obtain⟨bs,bi,bl,next,O,B,gO,aE⟩:=c.ex;simp only[sd]at B;have o:=c.hr.cons (dy 4 0 [u.t]);have l1:=Lb.new c.hr.lt c.hr.fp (dy 4 0 [u.t]);have r:=Step.cons c.ok.hr c.hr.lt (dy 4 0 [u.t]);have N:=λ{tb:fq} (b:tb.p 110=some AG) H=>Mg b s H dj;have J:=λ{tb:fq} (b:tb.p 231=some qf) H=>Kq b W H k.1;have aX:=u.kP;simp[Tryz.f198,P];cases hE with
 |num a=>
  simp[d,i];refine nN dp o dj λx h g=> ?_;simp;exact⟨rfl,(r.trans h).out,q+1,dt,dt,g.out⟩
 |nm a=>
  simp[d,B,L,N];refine dU (λT=> ?_) (λT=> ?_)
  ·simp[d,i];refine nN dp o dj λx h g=> ?_;simp;exact⟨rfl,(r.trans h).out,q+1,dt,dt,g.out⟩
  ·simp[d,i,B,L,J];refine nN dp o dj λx h g=> ?_;simp;exact⟨rfl,(r.trans h).out,q+1,dt,dt,g.out⟩
 | @ix a l=>
  have R:(dK.mk 3 0 [113] [a]).w=1+a.w:=by rw[dK.kP];simp[dK.jM,dK.iz]
  simp[d,i];refine gJ E dp ⟨W,s,q,v,a,I⟩ ⟨⟨rfl,o,k,y,l,dt⟩,dt⟩ ?_;rintro _ Q ⟨rfl,j,F,C,D,n⟩;simp only at j C D n;have l2:=l1.step j;obtain⟨bu,bk,bn,a8,ap,K,av,aN⟩:=n.ex;simp only[sd,ng]at K l2;simp[d,i,K,l2.get,J,X,V];refine nN dp n dj λx h g=> ?_;simp;exact⟨rfl,((r.trans j).trans h).out,F+1,dt,dt,g.out⟩
 | @bin z a A a7 l S=>
  have R:(dK.mk z 0 [] [a,A]).w=1+a.w+A.w:=by rw[dK.kP];simp[dK.jM,dK.iz];omega
  simp[d,i,show¬z=1 by omega,show¬z=2 by omega,show¬z=3 by omega];refine gJ E dp ⟨W,s,q,v,a,I⟩ ⟨⟨rfl,o,k,y,l,dt⟩,dt⟩ ?_;rintro _ Q ⟨rfl,j,F,C,D,n⟩;simp only at j C D n;have l2:=l1.step j;simp only[ng]at l2;simp[d,i,l2.get,nD];refine gJ E dp ⟨W,s,F,v,A,_⟩ ⟨⟨rfl,n,k,y,S,dt⟩,dt⟩ ?_;rintro _ aA ⟨rfl,G,an,Z,ae,M⟩;simp only at G Z ae M;have l3:=l2.step G;simp[d,i,l3.get,nD];refine nN dp M dj λx h g=> ?_;simp;exact⟨rfl,(((r.trans j).trans G).trans h).out,an+1,dt,dt,g.out⟩
abbrev MP:kA:=jp Jl (λa b c=>Eu a b c/\a.e.w<10000001) AI
def Qy:MP.Ok Tryz.prog cx 198:=yx (λa:Jl=>a.e.w) Mi 10000001
def Hq{g:fq}{n:Nat}{W:dR}{f:List (List Nat)}{d b:Nat}{a:dK}{k:Int}{i:H}{o:af Oper}{l:aa Tmp}{m:List Oper}{q p:fJ}{j:iw}(ht:g.h 198=some MP)(y:Gn W f d i b)(u:okW W)(s:f.length<=1000000)(v:ME a)(x:d+a.w<=10000000)
 (r:∀c e,Step b i c->d<e->e<=d+a.w->Gn W f e c b->XK (some (.tuple [],c)) cx (qk Tryz.prog cx g) n o l m q p j):XK (hl Tryz.prog cx g 198 [.ptr b 0 0 0,a.t,dw k] i) cx (qk Tryz.prog cx g) n o l m q p j:=
 gJ Qy ht ⟨W,f,d,b,a,k⟩ ⟨⟨rfl,y,u,s,v,x⟩,dt⟩ (by rintro _ c ⟨rfl,C,e,z,A,B⟩;exact r c e C z A B)
structure VH where
 (W:dR) (L:List (List Nat)) (n g:Nat) (s:dG)
def Bo(a:VH)(b:List T)(c:H):Prop:=b=[.ptr a.g 0 0 0,a.s.t]/\Gn a.W a.L a.n c a.g/\okW a.W/\a.L.length<=1000000/\MS a.s/\a.n+a.s.w<=10000000
def wW(a:VH)(f:List T)(d:H)(e:T)(c:H):Prop:=e= .tuple []/\Step a.g d c/\∃b,a.n<=b/\b<=a.n+a.s.w/\Gn a.W a.L b c a.g
def It:(jp VH (λv y a=>Bo v y a/\v.s.op=1) wW).Ok Tryz.prog cx 194:=by
 refine jk (tb:=⟨pt [(110,AG),(231,qf)],ht [(96,jp CB tW qg),(198,MP)]⟩) ei eg (iL 36893488147419136123 [] Tryz.func194) (λ_ _=>5) (λv y a V=>by obtain⟨⟨rfl,_⟩,_⟩:=V;simp[Tryz.f194]) ?_;rintro⟨W,H,n,K,j⟩ _ a ⟨⟨rfl,c,e,o,q,T⟩,u⟩ bn C;simp only at c e o q T u;simp at C;obtain⟨b,M⟩:=C;obtain⟨m,R,S⟩:=e.2.2.2.2.2;have a6:=c.lt;have U:(K=a.size)=False:=dq;obtain⟨bl,a7,bk,next,O,A,gO,aX⟩:=c.ex;simp only[sd]at A;have E:=c.hr.cons (dy 11 0 [j.t]);have l1:=Lb.new c.hr.lt c.hr.fp (dy 11 0 [j.t]);have x:=Step.cons c.ok.hr c.hr.lt (dy 11 0 [j.t]);have J:=λ{tb:fq} (a:tb.p 110=some AG) l=>Mg a H l dj;have z:=λ{tb:fq} (a:tb.p 231=some qf) l=>Kq a W l e.1;have Y:=j.kP;have D:=q.ex (.inl u);simp[Tryz.f194,b,M,A,U];cases g:j.index with
 |cons l r=>
  have X:=q.arr u (by rw[g];simp);have Z:=q.ind l (by rw[g];simp);rw[g,dK.jM]at Y;simp[b,g];refine Hq dp E e o Z dj λN w f ap av h=> ?_;have l2:=l1.step f;simp only[ng]at l2;simp[b,l2.get,nD];refine Hq dp h e o D dj λaN ae G a8 bi F=> ?_;have l3:=l2.step G;obtain⟨aE,an,aA,al,I,d,L,P⟩:=F.ex;simp only[sd]at d;simp[b,l3.get,d,z,X,S,R,nD];refine nN dp F dj λB k i=> ?_;simp;exact⟨rfl,(((x.trans f).trans G).trans k).out,ae+1,dt,dt,i.out⟩
 |nil=>
  simp[b,g];refine Hq dp E e o D dj λN w f ap av h=> ?_;have l2:=l1.step f;simp only[ng]at l2;obtain⟨aE,an,aA,al,I,d,L,P⟩:=h.ex;simp only[sd]at d;simp[b,l2.get,d,J];refine dU (λQ=> ?_) (λQ=> ?_)
  ·simp[b];refine nN dp h dj λB k i=> ?_;simp;exact⟨rfl,((x.trans f).trans k).out,w+1,dt,dt,i.out⟩
  ·simp[b,l2.get,d,z];refine nN dp h dj λB k i=> ?_;simp;exact⟨rfl,((x.trans f).trans k).out,w+1,dt,dt,i.out⟩
def Et:kA:=⟨λd a=>∃W c f b h,d=[.ptr b 0 0 0,.str h]/\Gn W c f a b/\okW W,λ_ a g e=>e=a/\D0 g⟩
def NV:Et.Ok Tryz.prog cx 197:=by
 refine HM (tb:=⟨pt [],ht []⟩) ei eg (iL 67117107 [] Tryz.func197) false (λ_ _=>1000005) (λt f q=>by obtain⟨W,l,r,i,k,rfl,_⟩:=q;simp[Tryz.f197]) ?_;rintro _ f ⟨W,l,r,i,k,rfl,e,m⟩ b j;simp at j;obtain⟨a,c⟩:=j;obtain⟨y,w,x,next,s,g,gO,u⟩:=e.ex;simp only[sd]at g;have hl:=m.2.2.1;simp[Tryz.f197];refine fc W.fV.length dj (λe b h=>h=hr f/\dz b 0 (.ptr i 0 0 0)/\dz b 1 (.str k)/\dz b 5 (dw e)) ?_ ?_ dj (by simp[a,c])
 ·rintro v b h p n ⟨rfl,a,c,d⟩;simp[a,c,d,g,p];refine dU (λo=> ?_) (λo=> ?_)
  ·simp[d];exact pq f _ _ e.ok.hp (Fr.refl _ _) rfl ⟨rfl,dp⟩
  ·simp[a,c,d,n]
 ·rintro b h ⟨rfl,a,c,d⟩;simp[a,d,g];exact pq f _ _ e.ok.hp (Fr.refl _ _) rfl ⟨rfl,dp⟩
def Gn.YE{W:dR}{r:List (List Nat)}{a:Nat}{j:H}{h:Nat}(u:Gn W r a j h)(x:0<a):∃p o next,∃b:List fF,∃c g q k f,j.get h=some (dy 10 p [.agg (sd W r (.arr c g 0 a false) o next)])/\j.get c=some ⟨6,g,q,k,false,f⟩/\c≠h/\Fp j h c/\f.take a=b.map fF.t/\b.length=a/\∀e,e<a->∃w:fF,f[e]? =some w.t:=by
 obtain⟨p,y,o,next,b,i,gO,n⟩:=u.ex;rcases gO with⟨_,d⟩|⟨c,g,q,k,f,rfl,d,m⟩
 ·simp at d;subst d;simp at n;omega
 rw[aH,n]at i m;refine⟨p,o,next,b,c,g,q,k,f,i,d,λv=>by subst v;rw[i]at d;simp at d,.inr ⟨_,i,.arr c g 0 a false,by simp[eQ,T.cells,sd],rfl⟩,m,n,λe s=>⟨b[e],?_⟩⟩;have:(f.take a)[e]? =(b.map fF.t)[e]? :=by rw[m]
 rw[bJ,aq s,aQ,az (l:=b) dj]at this;exact this
def Qt(W:dR)(e:List (List Nat))(d b g:Nat)(f c:H):Prop:=Step b f c/\∃a,d<=a/\a<=d+g/\Gn W e a c b
structure aag where
 (W:dR) (L:List (List Nat)) (n g:Nat) (l:List dG)
def T4(a:aag)(b:List T)(c:H):Prop:=b=[.ptr a.g 0 0 0,sl (a.l.map dG.t)]/\Gn a.W a.L a.n c a.g/\okW a.W/\a.L.length<=1000000/\(∀d∈a.l,MS d)/\a.n+dG.ws a.l<=10000000
abbrev CL(e:Nat):kA:=jp aag (λa c b=>T4 a c b/\dG.ws a.l<e) (λa _ b f d=>f= .tuple []/\Qt a.W a.L a.n a.g (dG.ws a.l) b d)
abbrev rSt(d:Nat):kA:=jp VH (λa b c=>Bo a b c/\a.s.w<d) wW
def Kn{j:Nat}(z:(CL j).Ok Tryz.prog cx 95){g:fq}{n:Nat}{W:dR}{f:List (List Nat)}{d b:Nat}{a:List dG}{i:H}{o:af Oper}{l:aa Tmp}{m:List Oper}{q p:fJ}{k:iw}(ht:g.h 95=some (CL j))(y:Gn W f d i b)(u:okW W)(s:f.length<=1000000)(x:∀D∈a,MS D)(w:d+dG.ws a<=10000000)(v:dG.ws a<j)
 (r:∀c e,Step b i c->d<=e->e<=d+dG.ws a->Gn W f e c b->XK (some (.tuple [],c)) cx (qk Tryz.prog cx g) n o l m q p k):XK (hl Tryz.prog cx g 95 [.ptr b 0 0 0,sl (a.map dG.t)] i) cx (qk Tryz.prog cx g) n o l m q p k:=
 gJ z ht ⟨W,f,d,b,a⟩ ⟨⟨rfl,y,u,s,x,w⟩,v⟩ (by rintro _ c ⟨rfl,a,e,A,B,C⟩;exact r c e a A B C)
def Ak(Y:Nat)(aE:(CL Y).Ok Tryz.prog cx 95):(jp VH (λi a N=>(Bo i a N/\i.s.w<Y+1)/\(i.s.op=2\/i.s.op=3)) wW).Ok Tryz.prog cx 195:=by
 refine jk (tb:=⟨pt [],ht [(96,jp CB tW qg),(198,MP),(95,CL Y)]⟩) ei eg (iL 590296373308659073275 [] Tryz.func195) (λ_ _=>5) (λi a N b8=>by obtain⟨⟨⟨rfl,_⟩,_⟩,_⟩:=b8;simp[Tryz.f195]) ?_;rintro⟨W,M,n,o,T⟩ _ N ⟨⟨⟨rfl,l,R,P,Q,b6⟩,bS⟩,aA⟩ eI av;simp only at l R P Q b6 aA bS;simp at av;obtain⟨g,bu⟩:=av;have ec:=l.lt;have b7:(o=N.size)=False:=dq;obtain⟨eD,er,c4,next,O,al,gO,eb⟩:=l.ex;simp only[sd]at al;have b9:=l.hr.cons (dy 11 0 [T.t]);have l1:=Lb.new l.hr.lt l.hr.fp (dy 11 0 [T.t]);have c6:=Step.cons l.ok.hr l.hr.lt (dy 11 0 [T.t]);have ef:=T.kP;have bT:=Q.ex (by rcases aA with q|q<;>simp[q]);simp[Tryz.f195,g,bu,al,b7,gO.len (cx:=cx)];refine Hq dp b9 R P bT dj λdm j a7 p1 p2 aN=> ?_;have l2:=l1.step a7;simp only[ng]at l2;obtain⟨eE,et,eA,eh,de,an,bl,bB⟩:=aN.ex;simp only[sd]at an;simp[g,an,bl.len (cx:=cx),bB];refine nN dp aN dj λdn a8 ca=> ?_;have l3:=l2.step a8;simp[g,l3.get];refine Kn aE dp ca R P Q.bd dj dj λbz e bi p3 p4 aX=> ?_;have l4:=l3.step bi;obtain⟨eF,eu,eB,cL,di,V,bn,bC⟩:=aX.ex;obtain⟨Z,A⟩:=aX.Gx V bn bC c4 cL;simp only[sd]at V Z A;have l5:=l4.step Z;have ae:=(((c6.trans a7).trans a8).trans bi).trans Z;simp[g,V,dP];generalize dQ bz o _=ds at*
 simp[l5.get];refine dU (λX=> ?_) (λX=> ?_)
 ·simp[g];refine nN dp A dj λE U G=> ?_;obtain⟨J,I,H,B,z,C,K,D,L,d,f,r,p,v,F,u⟩:=G.YE dj;obtain⟨x,k⟩:=u j dj;have h:j<e+1:=dj;obtain⟨m,y⟩:=G.elem (i:=j) (x:=⟨x.op,x.a,((e+1:Nat):Int),x.c,x.n,x.iO⟩) f p r ⟨J,_,I,H,B,d,rfl,v,F,h⟩;simp only[sd]at d;simp[g,d,f,k,h];exact⟨rfl,((ae.trans U).trans (by simpa using m)).out,e+1,dt,dt,(by simpa using y:Gn W M (e+1) _ o).out⟩
 simp[l5.get];refine dU (λX=> ?_) (λX=> ?_)
 ·simp[g];obtain⟨J,I,H,B,z,C,K,D,L,d,f,r,p,v,F,u⟩:=A.YE dj;obtain⟨x,k⟩:=u j dj;have h:j<e:=dj;obtain⟨m,y⟩:=A.elem (i:=j) (x:=⟨x.op,x.a,(e:Int),x.c,x.n,x.iO⟩) f p r ⟨J,_,I,H,B,d,rfl,v,F,h⟩;simp only[sd]at d;simp[g,d,f,k,h];exact⟨rfl,(ae.trans (by simpa using m)).out,e,dt,dt,(by simpa using y:Gn W M e _ o).out⟩
 obtain⟨eH,ey,eC,eo,dk,ap,bs,bH⟩:=A.ex;simp only[sd]at ap;simp[g,ap,bs.len (cx:=cx),bH];refine nN dp A dj λE U G=> ?_;have l6:=l5.step U;obtain⟨J,I,H,B,z,C,K,D,L,d,f,r,p,v,F,u⟩:=G.YE dj;obtain⟨x,k⟩:=u j dj;have h:j<e+1:=dj;obtain⟨m,y⟩:=G.elem (i:=j) (x:=⟨x.op,x.a,((e+1:Nat):Int),x.c,x.n,x.iO⟩) f p r ⟨J,_,I,H,B,d,rfl,v,F,h⟩;simp only[sd]at d;simp[g,d,f,k,h];replace m:Step o E (dQ E z ⟨6,C,K+1,D,false,L.set j (fF.t ⟨x.op,x.a,(e:Int)+1,x.c,x.n,x.iO⟩)⟩):=by simpa using m
 replace y:Gn W M (e+1) (dQ E z ⟨6,C,K+1,D,false,L.set j (fF.t ⟨x.op,x.a,(e:Int)+1,x.c,x.n,x.iO⟩)⟩) o:=by simpa using y
 have ce:=l6.step m;generalize dQ E z _=dv at*
 clear d f k;simp[ce.get];refine Kn aE dp y R P Q.el dj dj λea S c7 p5 p6 a6=> ?_;have FQ:=((ae.trans U).trans m).trans c7;obtain⟨dd,c1,cp,bk,z,C,K,D,L,d,f,r,p,v,bN,u⟩:=a6.YE dj;obtain⟨x,k⟩:=u e dj;have h:e<S:=dj;obtain⟨c9,cb⟩:=a6.elem (i:=e) (x:=⟨x.op,(S:Int),x.b,x.c,x.n,x.iO⟩) f p r ⟨dd,_,c1,cp,bk,d,rfl,v,bN,h⟩;simp only[sd]at d;simp[g,d,f,k,h];exact⟨rfl,(FQ.trans (by simpa using c9)).out,S,dt,dt,(by simpa using cb:Gn W M S _ o).out⟩
structure IAr where
 (W:dR) (L:List (List Nat)) (n g:Nat) (s:dG) (a b o:Int)
def tL(j:Nat)(N:(CL j).Ok Tryz.prog cx 95):(jp IAr (λc A e=>A=[.ptr c.g 0 0 0,c.s.t,dw c.a,dw c.b,dw c.o]/\Bo ⟨c.W,c.L,c.n,c.g,c.s⟩ [.ptr c.g 0 0 0,c.s.t] e/\c.s.w<j+1) (λc _ e U D=>wW ⟨c.W,c.L,c.n,c.g,c.s⟩ [] e U D)).Ok Tryz.prog cx 196:=by
 refine jk (tb:=⟨pt [],ht [(96,jp CB tW qg),(95,CL j)]⟩) ei eg (iL 1119 [] Tryz.func196) (λ_ _=>5) (λc z e M=>by obtain⟨rfl,_⟩:=M;simp[Tryz.f196]) ?_;rintro⟨W,L,n,B,f,z,b,o⟩ _ e ⟨rfl,⟨_,d,q,m,p,J⟩,I⟩ bi r;simp only at d q m p J I;simp at r;obtain⟨i,E,F,G,l⟩:=r;have aA:=d.lt;have K:(B=e.size)=False:=dq;obtain⟨a7,aN,V,next,O,k,gO,av⟩:=d.ex;simp only[sd]at k;have P:=d.hr.cons (dy 11 0 [f.t]);have l1:=Lb.new d.hr.lt d.hr.fp (dy 11 0 [f.t]);have X:=Step.cons d.ok.hr d.hr.lt (dy 11 0 [f.t]);have aE:=f.kP;simp[Tryz.f196,i,E,F,l,k,K];refine nN dp P dj λal x Q=> ?_;have l3:=l1.step x;simp only[ng]at l3;simp[i,l3.get];refine Kn N dp Q q m p.bd dj dj λan S Y p3 p4 u=> ?_;obtain⟨a8,aX,a6,T,ae,h,C,H⟩:=u.ex;obtain⟨y,v⟩:=u.Gx h C H V T;simp only[sd]at h y v;simp[i,G,l,h,dP];refine nN dp v dj λap Z R=> ?_;simp;exact⟨rfl,((((X.trans x).trans Y).trans y).trans Z).out,S+1,dt,dt,R.out⟩
def Mt(m:Nat)(E:(rSt m).Ok Tryz.prog cx 148):(CL m).Ok Tryz.prog cx 95:=by
 refine jk (tb:=⟨pt [],ht [(148,rSt m)]⟩) ei eg (iL 275 [] Tryz.func95) (λ_ _=>10000005) (λc G r D=>by obtain⟨⟨rfl,_⟩,_⟩:=D;simp[Tryz.f95]) ?_;rintro⟨W,q,n,f,l⟩ _ r ⟨⟨rfl,j,v,s,u,C⟩,B⟩ d w;simp only at j v s u C B;simp at w;obtain⟨e,b⟩:=w;have hl:=dG.ue (l:=l);simp[Tryz.f95];refine fc l.length dj (λc d g=>Step f (hr r) g/\(∃a,n<=a/\a<=n+dG.ws (l.take c)/\Gn W q a g f)/\dz d 0 (.ptr f 0 0 0)/\dz d 1 (sl (l.map dG.t))/\dz d 4 (dw c)) ?_ ?_ dj (by simp[e,b,Step.refl j.ok.hr];exact⟨n,au _,dj,j.hr⟩)
 ·rintro c d g i A ⟨p,⟨a,y,o,k⟩,e,b,h⟩;have K:=dG.Ek l i;have J:=dG.wK l (c+1);have I:=dG.uE (aF i);simp[e,b,h,i];refine gJ E dp ⟨W,q,a,f,l[c]⟩ ⟨⟨rfl,k,v,s,u _ (aF i),dt⟩,dt⟩ ?_;rintro _ H ⟨rfl,z,F,p1,p2,x⟩;simp only at z p1 p2 x;simp[e,b,h,A];exact⟨p.trans z,F,dj,dj,x⟩
 ·rintro d g ⟨p,⟨a,y,o,k⟩,e,b,h⟩;rw[aL]at o;simp[b,h];exact⟨p.out,a,y,o,k.out⟩
def Qj(A:Nat)(K:(CL A).Ok Tryz.prog cx 95):(rSt (A+1)).Ok Tryz.prog cx 148:=by
 obtain⟨F,a6⟩:=hlI NV (λ_ _ _ _ G=>G);refine jk (tb:=⟨pt [(110,AG),(146,p8)],ht [(96,jp CB tW qg),(198,MP),(194,jp VH (λe M i=>Bo e M i/\e.s.op=1) wW),(195,jp VH (λe M i=>(Bo e M i/\e.s.w<A+1)/\(e.s.op=2\/e.s.op=3)) wW),
  (196,jp IAr (λe ap i=>ap=[.ptr e.g 0 0 0,e.s.t,dw e.a,dw e.b,dw e.o]/\Bo ⟨e.W,e.L,e.n,e.g,e.s⟩ [.ptr e.g 0 0 0,e.s.t] i/\e.s.w<A+1) (λe _ i r j=>wW ⟨e.W,e.L,e.n,e.g,e.s⟩ [] i r j)),(197,Et)]⟩) ei eg (iL 365376106316094180278949616271352870286206697499 [(11,[(1,9)]),(13,[(1,9)]),(15,[(1,9)]),(34,[(7,12),(7,14)])] Tryz.func148) (λ_ _=>5) (λe M i bi=>by obtain⟨⟨rfl,_⟩,_⟩:=bi;simp[Tryz.f148]) ?_
 rintro⟨W,B,k,y,l⟩ _ i ⟨⟨rfl,G,x,D,E,I⟩,J⟩ eb Y;simp only at G x D E I J;simp at Y;obtain⟨C,aX⟩:=Y;have ca:=G.lt;have cb:(y=i.size)=False:=dq;obtain⟨dm,c1,dd,next,O,aA,gO,b7⟩:=G.ex;have ae:=G.hr.cons (dy 11 0 [l.t]);have l1:=Lb.new G.hr.lt G.hr.fp (dy 11 0 [l.t]);have bs:=Step.cons G.ok.hr G.hr.lt (dy 11 0 [l.t]);have ce:=l.kP;obtain⟨dn,c4,de,an,bz,Q,aE,a7⟩:=ae.ex;obtain⟨T,S⟩:=ae.Gx Q aE a7 an an;obtain⟨ds,c6,bn,bl,bB,R,aN,a8⟩:=S.ex;obtain⟨U,f⟩:=S.Gx R aN a8 bn (IntKind.i64.wrap (bl+1));have l3:=(l1.step T).step U;simp only[sd,ng]at aA Q T S R U f l3;simp[Tryz.f148,C,aX,Q,dP,R,nD];have m:=(bs.trans T).trans U;have N:=λ{tb:fq} (ht:tb.h 197=some Et) H=>a6 ht [.ptr y 0 0 0,.str H] _ ⟨W,B,k,y,H,rfl,f,x⟩;generalize dQ (dQ _ y _) y _=bT at*
 obtain⟨dv,c7,di,cp,bC,z,bN,b8⟩:=f.ex;simp only[sd]at z;have av:=λ{tb:fq} (i:tb.p 110=some AG) H=>Mg i B H dj;have eT:=λ{tb:fq} (i:tb.p 110=some AG) H=>Mg i W.dB H (by have:=x.2.2.2.2.1;omega);have V:=λ{tb:fq} (i:tb.p 110=some AG) H=>Mg i W.dT H (by have:=x.2.2.2.1;omega);have P:=λ{tb:fq} (i:tb.p 146=some p8) H=>Ko i W.dV H x.2.1;simp[z,l3.get]
 repeat' (refine dU (λZ=> ?_) (λZ=> ?_)<;>simp[Z,C,l3.get])
 ·try simp[C,l3.get]
  refine gJ It dp ⟨W,B,k,y,l⟩ ⟨⟨rfl,f,x,D,E,I⟩,by simpa using‹decide (l.op=1)=true›⟩ ?_;rintro _ j ⟨rfl,c,q,u,v,d⟩;simp;exact⟨rfl,(m.trans c).out,q,u,v,d.out⟩
 ·try simp[C,l3.get]
  refine gJ (Ak A K) dp ⟨W,B,k,y,l⟩ ⟨⟨⟨rfl,f,x,D,E,I⟩,J⟩,.inl (by simpa using‹decide (l.op=2)=true›)⟩ ?_;rintro _ j ⟨rfl,c,q,u,v,d⟩;simp;exact⟨rfl,(m.trans c).out,q,u,v,d.out⟩
 ·try simp[C,l3.get]
  refine gJ (Ak A K) dp ⟨W,B,k,y,l⟩ ⟨⟨⟨rfl,f,x,D,E,I⟩,J⟩,.inr (by simpa using‹decide (l.op=3)=true›)⟩ ?_;rintro _ j ⟨rfl,c,q,u,v,d⟩;simp;exact⟨rfl,(m.trans c).out,q,u,v,d.out⟩
 ·simp[l3.get,z,P];refine lJ (tL A K) dp ⟨W,B,k,y,l,11,12,_⟩ ⟨rfl,⟨rfl,f,x,D,E,I⟩,J⟩ ?_;rintro _ j ⟨rfl,c,q,u,v,d⟩;simp;exact⟨rfl,(m.trans c).out,q,u,v,d.out⟩
 ·simp[l3.get,z,P];refine lJ (tL A K) dp ⟨W,B,k,y,l,13,14,_⟩ ⟨rfl,⟨rfl,f,x,D,E,I⟩,J⟩ ?_;rintro _ j ⟨rfl,c,q,u,v,d⟩;simp;exact⟨rfl,(m.trans c).out,q,u,v,d.out⟩
 ·simp[l3.get,z,P];refine lJ (tL A K) dp ⟨W,B,k,y,l,15,16,_⟩ ⟨rfl,⟨rfl,f,x,D,E,I⟩,J⟩ ?_;rintro _ j ⟨rfl,c,q,u,v,d⟩;simp;exact⟨rfl,(m.trans c).out,q,u,v,d.out⟩
 ·try simp[C,l3.get,z]
  refine gJ (tL A K) dp ⟨W,B,k,y,l,17,18,_⟩ ⟨rfl,⟨rfl,f,x,D,E,I⟩,J⟩ ?_;rintro _ j ⟨rfl,c,q,u,v,d⟩;simp;exact⟨rfl,(m.trans c).out,q,u,v,d.out⟩
 ·try simp[C,l3.get,z]
  refine gJ (tL A K) dp ⟨W,B,k,y,l,19,20,_⟩ ⟨rfl,⟨rfl,f,x,D,E,I⟩,J⟩ ?_;rintro _ j ⟨rfl,c,q,u,v,d⟩;simp;exact⟨rfl,(m.trans c).out,q,u,v,d.out⟩
 ·simp[N];refine nN dp f dj λj c d=> ?_;simp;exact⟨rfl,(m.trans c).out,k+1,dt,dt,d.out⟩
 ·simp[N];refine nN dp f dj λj c d=> ?_;simp;exact⟨rfl,(m.trans c).out,k+1,dt,dt,d.out⟩
 ·simp[N];refine nN dp f dj λj c d=> ?_;simp;exact⟨rfl,(m.trans c).out,k+1,dt,dt,d.out⟩
 ·simp[l3.get,z,eT];refine nN dp f dj λj c d=> ?_;simp;exact⟨rfl,(m.trans c).out,k+1,dt,dt,d.out⟩
 ·simp[l3.get,z,eT];refine nN dp f dj λj c d=> ?_;simp;exact⟨rfl,(m.trans c).out,k+1,dt,dt,d.out⟩
 ·try simp[C,l3.get,z]
  refine Hq dp f x D (E.ex (.inr (.inr (.inr (by simpa using‹decide (l.op=14)=true›))))) dj λb6 bk c p1 p2 al=> ?_;obtain⟨ea,c9,dk,cL,bH,X,bS,b9⟩:=al.ex;simp only[sd]at X;simp[C,(l3.step c).get,X,V];refine nN dp al dj λj bu d=> ?_;simp;exact⟨rfl,((m.trans c).trans bu).out,bk+1,dt,dt,d.out⟩
 ·simp[C,l3.get,z,av,V];refine ZZ dp f dj λj c d=> ?_;simp;exact⟨rfl,(m.trans c).out,k+1,dt,dt,d.out⟩
 ·exact⟨rfl,m.out,k,au _,dt,f.out⟩
def K6(a:Nat):(CL a).Ok Tryz.prog cx 95:=by
 induction a with
 |zero=>intro d e ⟨f,_,b⟩;exact absurd b (Nat.not_lt_zero _)
 |succ a c=>exact Mt (a+1) (Qj a c)
end
end Go.Proofs.YtmaeadedikngoaaGreatDoor
