/- Texts W06m to W06n. -/
import Derived.Test.YtmaeadedikngoaaGreatDoorA26
set_option linter.all false
set_option maxRecDepth 100000
set_option maxHeartbeats 8000000
namespace Go.Proofs.YtmaeadedikngoaaGreatDoor
noncomputable section
open Go Go.TI
attribute [-simp] List.map_take List.map_drop List.map_append fG fg ei Bool.not_or Bool.not_and
attribute [simp] fF fh
def qU:hU:=⟨d8×List Nat,λa=>[a.1.t,.str a.2],λa=>a.1.cells.length<=1000000,λa=> dE (sj (a.1.cells.map ij.name) a.2 0),λa c b=>by
 simp at b;rw[d8.inj b.1,b.2]⟩
def Pz:qU.Ok Tryz.prog cx 231:=by
 refine iv (tb:=⟨pt [],ht []⟩) fa eQ (iR 1049655 [] Tryz.func231) (λo=>o.1.cells.length+1) (by simp[qU]) (by simp[qU,Tryz.f231]) ?_;rintro⟨k,l⟩ hl b m;simp[qU]at hl m|-;obtain⟨p,c⟩:=m;simp[Tryz.f231,p];refine fy k.cells.length dz (λi b g=>ig 1 g/\g.get 0=some (dG 6 0 [k.t])/\dH b 1 (.str l)/\dH b 2 (.ptr 0 0 0 0)/\dH b 5 (dE i)/\sj ((k.cells.drop i).map ij.name) l i=sj (k.cells.map ij.name) l 0) ?_ ?_ dz (by simp[c])
 ·rintro i b g n q ⟨j,f,c,h,d,a⟩;rw[aJ n,aV,sj]at a;simp[f,c,h,d,n];refine ee (λe=> ?_) (λe=> ?_)
  ·simp at e;rw[aq e]at a;simp[d,<-a,j.hp]
  ·simp at e;rw[ao e]at a;simp[f,c,h,d,q,a,j]
 ·rintro b g ⟨j,f,c,h,d,a⟩;simp[sj]at a;simp[f,h,d,<-a,j.hp]
def LI{c:fJ}(ht:c.p 231=some qU)(a:d8)(b:List Nat)(hl:a.cells.length<=1000000):rl Tryz.prog cx c 231 [a.t,.str b]=some (dE (sj (a.cells.map ij.name) b 0)):=im ht Pz (a,b) hl
def qR:hU:=⟨List iF×List Nat,λa=>[sl (a.1.map iF.t),.str a.2],λa=>a.1.length<=1000000,λa=> dE (sj (a.1.map iF.name) a.2 0),λa c b=>by
 simp at b;rw[jD (λ_ _=>iF.inj) b.1,b.2]⟩
def Pc:qR.Ok Tryz.prog cx 146:=by
 refine iv (tb:=⟨pt [],ht []⟩) fa eQ (iR 262707 [] Tryz.func146) (λm=>m.1.length+1) (by simp[qR]) (by simp[qR,Tryz.f146]) ?_;rintro⟨h,j⟩ hl c k;simp[qR]at hl k|-;obtain⟨b,d⟩:=k;simp[Tryz.f146];refine fy h.length dz (λg c i=>i=hE/\dH c 0 (sl (h.map iF.t))/\dH c 1 (.str j)/\dH c 5 (dE g)/\sj ((h.drop g).map iF.name) j g=sj (h.map iF.name) j 0) ?_ ?_ dz (by simp[b,d])
 ·rintro g c i l n ⟨rfl,b,d,e,a⟩;rw[aJ l,aV,sj]at a;simp[b,d,e,l];refine ee (λf=> ?_) (λf=> ?_)
  ·simp at f;rw[aq f]at a;simp[e,<-a]
  ·simp at f;rw[ao f]at a;simp[b,d,e,n,a]
 ·rintro c i ⟨rfl,b,d,e,a⟩;simp[sj]at a;simp[b,e,<-a]
def LH{c:fJ}(ht:c.p 146=some qR)(a:List iF)(b:List Nat)(hl:a.length<=1000000):rl Tryz.prog cx c 146 [sl (a.map iF.t),.str b]=some (dE (sj (a.map iF.name) b 0)):=im ht Pc (a,b) hl
def tu(W:d8)(a:List (List Nat))(b:T)(c next:Int):List T:=
 [sl (W.cells.map ij.t),sl (W.em.map iF.t),sl (W.gW.map iU.t),sl (W.eg.map T.str),sl (W.dK.map T.str),sl (W.iG.map iH.t),sl (a.map T.str),b,dE c,dE next]
structure Gn(W:d8)(L:List (List Nat))(n:Nat)(h:H)(g:Nat):Prop where
 ok:ig 0 h
 fp:∀b,Fp h g b->b<h.size
 ex:∃ver ov jk next,∃O:List fT,h.get g=some (dG 10 ver [.agg (tu W L ov jk next)])/\Gr h ov 6 (O.map fT.t)/\O.length=n
def Gn.lt{W:d8}{c:List (List Nat)}{e:Nat}{b:H}{a:Nat}(d:Gn W c e b a):a<b.size:=d.fp a (.inl rfl)
def Gn.same{W:d8}{f:List (List Nat)}{k:Nat}{c d:H}{b:Nat}(j:Gn W f k c b)(q:ig 0 d)(h:∀a,Fp c b a->d.get a=c.get a)(p:c.size<=d.size):Gn W f k d b:=by
 obtain⟨s,l,r,next,m,g,n,o⟩:=j.ex;have i:=h b (.inl rfl);exact⟨q,λa e=>by rw[iW i]at e;exact bE (j.fp a e) p,s,l,r,next,m,by rw[i];exact g,n.mono λa e=>h a (.inr ⟨_,g,l,by simp[fw,T.cells,tu],e⟩),o⟩
def Gn.cons{W:d8}{b:List (List Nat)}{e:Nat}{d:H}{c:Nat}(a:Gn W b e d c)(f:iZ):Gn W b e (d.cons f) c:=
 a.same (a.ok.cons f) (λg h=>by rw[dV,ao (by have:=a.fp g h;omega)]) dA 
def Gn.hr{W:d8}{b:List (List Nat)}{e:Nat}{a:H}{c:Nat}(d:Gn W b e a c):Gn W b e (TI.hr a) c:=d.same d.ok.hr (λf _=>gh a f) (au _)
def Gn.out{W:d8}{b:List (List Nat)}{e:Nat}{h a:H}{c:Nat}(d:Gn W b e a c):Gn W b e (lO h a) c:=d.same (d.ok.out h) (λf _=>fO h a f) (au _)
def Gn.HI{W:d8}{a:List (List Nat)}{h b f:Nat}{c:H}{d:T}{q next:Int}{g:List fT}(k:Gn W a h c b)(l:c.get b=some (dG 10 f [.agg (tu W a d q next)]))(gO:Gr c d 6 (g.map fT.t))(m:g.length=h)(e next':Int):
 Step b c (dY c b (dG 10 (f+1) [.agg (tu W a d e next')]))/\Gn W a h (dY c b (dG 10 (f+1) [.agg (tu W a d e next')])) b:=by
 obtain⟨i,n,o,p⟩:=Bt k.ok k.fp l (cells':=tu W a d e next') (λr j=>by
  simp[tu]at j|-;rcases j with rfl|rfl|rfl|rfl|rfl|rfl|rfl|rfl|rfl|rfl<;>simp) _ rfl
 exact⟨i,⟨i.ok.hp,i.ok.low,aw _⟩,n,f+1,d,e,next',g,o,p _ _ _ gO dD,m⟩
def Gn.app{W:d8}{b:List (List Nat)}{n a f:Nat}{c d:H}{h j:T}{e next:Int}{g:List fT}{x:fT}(o:Gn W b n c a)(k:c.get a=some (dG 10 f [.agg (tu W b h e next)]))(gO:Gr c h 6 (g.map fT.t))(r:g.length=n)(s:Bl c h 6 (g.map fT.t++[x.t]) j d):
 d.get a=some (dG 10 f [.agg (tu W b h e next)])/\fc c d a=true/\Step a c (dY d a (dG 10 (f+1) [.agg (tu W b j e next)]))/\Gn W b (n+1) (dY d a (dG 10 (f+1) [.agg (tu W b j e next)])) a:=by
 obtain⟨l,u⟩:=wD (i:=7) o.ok o.fp k rfl dD gO s.xt;obtain⟨m,p,q,v⟩:=u _ rfl;exact⟨l.trans k,fk l,m,⟨m.ok.hp,m.ok.low,aw _⟩,p,f+1,j,e,next,g++[x],by rw[dP (l.trans k),aq rfl],by rw[List.map_append];exact q,by simp[r]⟩
def Gn.elem{W:d8}{k:List (List Nat)}{g c b d h:Nat}{f:Bool}{a:H}{e:List T}{i:Nat}{x:fT}(u:Gn W k g a c)(m:a.get b=some ⟨6,d,h,f,false,e⟩)(A:Fp a c b)(r:b≠c)
 (B:∃q n o next,∃j:List fT,a.get c=some (dG 10 q [.agg (tu W k n o next)])/\n= .arr b d 0 g false/\e.take g=j.map fT.t/\j.length=g/\i<g):
 Step c a (dY a b ⟨6,d,h+1,f,false,e.set i x.t⟩)/\Gn W k g (dY a b ⟨6,d,h+1,f,false,e.set i x.t⟩) c:=by
 obtain⟨q,n,o,next,j,y,rfl,z,l,C⟩:=B;have p:=Step.Z8 u.ok m A r ⟨6,d,h+1,f,false,e.set i x.t⟩;have s:(dY a b ⟨6,d,h+1,f,false,e.set i x.t⟩).get c=a.get c:=by rw[dP m,ao (bo r)]
 refine⟨p,⟨p.ok.hp,p.ok.low,aw _⟩,λw v=>by rw[iW s]at v;rw[fU];exact u.fp w v,q,_,o,next,j.set i x,by rw[s];exact y,.inr ⟨b,d,h+1,f,e.set i x.t,by simp[l],by rw[dP m,aq rfl],?_⟩,by simp[l]⟩;rw[aG,cS,l,List.take_set,z,bY]
structure Du where
 (W:d8) (L:List (List Nat)) (n g:Nat) (i:fT)
def uE(a:Du)(b:List T)(c:H):Prop:=b=[.ptr a.g 0 0 0,a.i.t]/\Gn a.W a.L a.n c a.g/\a.n<=100000000
def qW(a:Du)(e:List T)(c:H)(d:T)(b:H):Prop:=d= .tuple []/\Step a.g c b/\Gn a.W a.L (a.n+1) b a.g
def K2:(jw Du uE qW).Ok Tryz.prog cx 96:=by
 refine jo (tb:=⟨pt [],ht []⟩) fa eQ (iR 11 [] Tryz.func96) (λ_ _=>5) (λd M h H=>by obtain⟨rfl,_⟩:=H;simp[Tryz.f96]) ?_;rintro⟨W,v,P,j,d⟩ _ h ⟨rfl,f,F⟩ S p;simp only at f F;simp at p;obtain⟨B,C⟩:=p;have O:=f.lt;have G:(j=h.size)=False:=dB;obtain⟨L,l,e,next,y,g,gO,D⟩:=f.ex;have k:=(f.hr.cons (dG 6 1 [fT.t ⟨d.op,d.a,d.b,d.c,d.n,e⟩]));have q:=k.cons (dG 6 0 [fT.t ⟨d.op,d.a,d.b,d.c,d.n,e⟩]);have K:=(Step.cons (w:=j) f.ok.hr f.lt (dG 6 1 [fT.t ⟨d.op,d.a,d.b,d.c,d.n,e⟩])).trans (Step.cons k.ok k.lt (dG 6 0 [fT.t ⟨d.op,d.a,d.b,d.c,d.n,e⟩]));have A:(((hr h).cons (dG 6 1 [fT.t ⟨d.op,d.a,d.b,d.c,d.n,e⟩])).cons (dG 6 0 [fT.t ⟨d.op,d.a,d.b,d.c,d.n,e⟩])).get j=some (dG 10 L [.agg (tu W v l e next)]):=by
  rw[dV,ao dB,dV,ao dB,gh];exact g
 have o:Gr (((hr h).cons (dG 6 1 [fT.t ⟨d.op,d.a,d.b,d.c,d.n,e⟩])).cons (dG 6 0 [fT.t ⟨d.op,d.a,d.b,d.c,d.n,e⟩])) l 6 (y.map fT.t):=gO.mono λm E=>by
  have:m<h.size:=f.fp m (.inr ⟨_,g,l,by simp[fw,T.cells,tu],E⟩);rw[dV,ao dB,dV,ao dB,gh]
 obtain⟨R,N,z,i⟩:=o.app (cx:=cx) q.ok (x:= .arr (h.size+1) 0 0 1 false) (xs:=[fT.t ⟨d.op,d.a,d.b,d.c,d.n,e⟩]) Lu rfl SX Lu rfl rfl dA (by rw[gH];simp) dA dA dB;obtain⟨r,Q,I,J⟩:=q.app A o D i;have s:=(K.trans I).out;have u:=J.out (h:=h);simp only[tu]at g r s u;simp[Tryz.f96,B,C,g,G,z,r,i.gr.il,i.gr.cells,dZ];exact⟨rfl,s,u⟩
structure KC where
 (W:d8) (L:List (List Nat)) (n g:Nat) (e:dW) (d:Int)
def okW(W:d8):Prop:=W.cells.length<=1000000/\W.em.length<=1000000/\W.gW.length<=1000000/\W.eg.length<=1000000/\W.dK.length<=1000000/\∃a,a<W.cells.length/\sj (W.cells.map ij.name) [113] 0=a
def Fk(a:KC)(b:List T)(c:H):Prop:=b=[.ptr a.g 0 0 0,a.e.t,dE a.d]/\Gn a.W a.L a.n c a.g/\okW a.W/\a.L.length<=1000000/\ME a.e/\a.n+a.e.w<=10000000
def aeY(W:d8)(e:List (List Nat))(d g b:Nat)(f c:H):Prop:=Step b f c/\∃a,d<a/\a<=d+g/\Gn W e a c b
def Br(a:KC)(f:List T)(b:H)(d:T)(c:H):Prop:=d= .tuple []/\aeY a.W a.L a.n a.e.w a.g b c
def oF{d:fJ}{l:Nat}{W:d8}{e:List (List Nat)}{c a:Nat}{i:fT}{f:H}{m:af Oper}{j:aa Tmp}{k:List Oper}{o n:fW}{g:iM}(ht:d.h 96=some (jw Du uE qW))(r:Gn W e c f a)(q:c<=100000000)
 (p:∀b,Step a f b->Gn W e (c+1) b a->XK (some (.tuple [],b)) cx (qZ Tryz.prog cx d) l m j k o n g):XK (hl Tryz.prog cx d 96 [.ptr a 0 0 0,i.t] f) cx (qZ Tryz.prog cx d) l m j k o n g:=
 iq K2 ht ⟨W,e,c,a,i⟩ ⟨rfl,r,q⟩ (by rintro _ b ⟨rfl,u,s⟩;exact p b u s)
def abH{e:fJ}{p:Nat}{W:d8}{f:List (List Nat)}{d a:Nat}{l:fT}{b:H}{r:af Oper}{i:List (Nat×Nat)}{j:aa Tmp}{q:Op}{n:List Oper}{m:Nat}{o:List (Nat×Nat)}{k:List (Nat×H×H)}{u s:fW}{g:iM}(ht:e.h 96=some (jw Du uE qW))(x:Gn W f d b a)(w:d<=100000000)
 (v:∀c,Step a b c->Gn W f (d+1) c a->Rq (some (.tuple [],c)) cx (qZ Tryz.prog cx e) p r i j q n m o k u s b g):Rq (hl Tryz.prog cx e 96 [.ptr a 0 0 0,l.t] b) cx (qZ Tryz.prog cx e) p r i j q n m o k u s b g:=
 li K2 ht ⟨W,f,d,a,l⟩ ⟨rfl,x,w⟩ (by rintro _ c ⟨rfl,z,y⟩;exact v c z y)
def NK(c:Nat)(E:(jw KC (λf a b=>Fk f a b/\f.e.w<c) Br).Ok Tryz.prog cx 198):(jw KC (λf a b=>Fk f a b/\f.e.w<c+1) Br).Ok Tryz.prog cx 198:=by
 refine jo (tb:=⟨pt [(110,Bp),(231,qU)],ht [(96,jw Du uE qW),(198,jw KC (λf a b=>Fk f a b/\f.e.w<c) Br)]⟩) fa eQ (iR 20282409606012871684182924853463 [] Tryz.func198) (λ_ _=>5) (λf a b al=>by obtain⟨⟨rfl,_⟩,_⟩:=al;simp[Tryz.f198]) ?_;rintro⟨W,s,q,v,u,I⟩ _ b ⟨⟨rfl,c,k,y,hE,Y⟩,U⟩ bz l;simp only at c k y hE Y U;simp at l;obtain⟨d,P,i⟩:=l;obtain⟨m,V,X⟩:=k.2.2.2.2.2;have a6:=c.lt;have L:(v=b.size)=False:=dB;obtain⟨bs,bi,bn,next,O,B,gO,aE⟩:=c.ex;simp only[tu]at B;have o:=c.hr.cons (dG 4 0 [u.t]);have l1:=Lb.new c.hr.lt c.hr.fp (dG 4 0 [u.t]);have r:=Step.cons c.ok.hr c.hr.lt (dG 4 0 [u.t]);have N:=λ{tb:fJ} (b:tb.p 110=some Bp) H=>NI b s H dz;have J:=λ{tb:fJ} (b:tb.p 231=some qU) H=>LI b W H k.1;have aX:=u.lF;simp[Tryz.f198,P];cases hE with
 |num a=>
  simp[d,i];refine oF dA o dz λx h g=> ?_;simp;exact⟨rfl,(r.trans h).out,q+1,dC,dC,g.out⟩
 |nm a=>
  simp[d,B,L,N];refine ee (λT=> ?_) (λT=> ?_)
  ·simp[d,i];refine oF dA o dz λx h g=> ?_;simp;exact⟨rfl,(r.trans h).out,q+1,dC,dC,g.out⟩
  ·simp[d,i,B,L,J];refine oF dA o dz λx h g=> ?_;simp;exact⟨rfl,(r.trans h).out,q+1,dC,dC,g.out⟩
 | @ix a l=>
  have R:(dW.mk 3 0 [113] [a]).w=1+a.w:=by rw[dW.lF];simp[dW.j7,dW.iQ]
  simp[d,i];refine iq E dA ⟨W,s,q,v,a,I⟩ ⟨⟨rfl,o,k,y,l,dC⟩,dC⟩ ?_;rintro _ Q ⟨rfl,j,F,C,D,n⟩;simp only at j C D n;have l2:=l1.step j;obtain⟨bu,bk,bp,a8,ap,K,av,aN⟩:=n.ex;simp only[tu,oa]at K l2;simp[d,i,K,l2.get,J,X,V];refine oF dA n dz λx h g=> ?_;simp;exact⟨rfl,((r.trans j).trans h).out,F+1,dC,dC,g.out⟩
 | @bin z a A a7 l S=>
  have R:(dW.mk z 0 [] [a,A]).w=1+a.w+A.w:=by rw[dW.lF];simp[dW.j7,dW.iQ];omega
  simp[d,i,show¬z=1 by omega,show¬z=2 by omega,show¬z=3 by omega];refine iq E dA ⟨W,s,q,v,a,I⟩ ⟨⟨rfl,o,k,y,l,dC⟩,dC⟩ ?_;rintro _ Q ⟨rfl,j,F,C,D,n⟩;simp only at j C D n;have l2:=l1.step j;simp only[oa]at l2;simp[d,i,l2.get,ou];refine iq E dA ⟨W,s,F,v,A,_⟩ ⟨⟨rfl,n,k,y,S,dC⟩,dC⟩ ?_;rintro _ aA ⟨rfl,G,an,Z,ae,M⟩;simp only at G Z ae M;have l3:=l2.step G;simp[d,i,l3.get,ou];refine oF dA M dz λx h g=> ?_;simp;exact⟨rfl,(((r.trans j).trans G).trans h).out,an+1,dC,dC,g.out⟩
abbrev Oe:lf:=jw KC (λa b c=>Fk a b c/\a.e.w<10000001) Br
def RZ:Oe.Ok Tryz.prog cx 198:=uY (λa:KC=>a.e.w) NK 10000001
def Iv{g:fJ}{n:Nat}{W:d8}{f:List (List Nat)}{d b:Nat}{a:dW}{k:Int}{i:H}{o:af Oper}{l:aa Tmp}{m:List Oper}{q p:fW}{j:iM}(ht:g.h 198=some Oe)(y:Gn W f d i b)(u:okW W)(s:f.length<=1000000)(v:ME a)(x:d+a.w<=10000000)
 (r:∀c e,Step b i c->d<e->e<=d+a.w->Gn W f e c b->XK (some (.tuple [],c)) cx (qZ Tryz.prog cx g) n o l m q p j):XK (hl Tryz.prog cx g 198 [.ptr b 0 0 0,a.t,dE k] i) cx (qZ Tryz.prog cx g) n o l m q p j:=
 iq RZ ht ⟨W,f,d,b,a,k⟩ ⟨⟨rfl,y,u,s,v,x⟩,dC⟩ (by rintro _ c ⟨rfl,C,e,z,A,B⟩;exact r c e C z A B)
structure XD where
 (W:d8) (L:List (List Nat)) (n g:Nat) (s:dQ)
def Ce(a:XD)(b:List T)(c:H):Prop:=b=[.ptr a.g 0 0 0,a.s.t]/\Gn a.W a.L a.n c a.g/\okW a.W/\a.L.length<=1000000/\MS a.s/\a.n+a.s.w<=10000000
def xJ(a:XD)(f:List T)(d:H)(e:T)(c:H):Prop:=e= .tuple []/\Step a.g d c/\∃b,a.n<=b/\b<=a.n+a.s.w/\Gn a.W a.L b c a.g
def JH:(jw XD (λv y a=>Ce v y a/\v.s.op=1) xJ).Ok Tryz.prog cx 194:=by
 refine jo (tb:=⟨pt [(110,Bp),(231,qU)],ht [(96,jw Du uE qW),(198,Oe)]⟩) fa eQ (iR 36893488147419136123 [] Tryz.func194) (λ_ _=>5) (λv y a V=>by obtain⟨⟨rfl,_⟩,_⟩:=V;simp[Tryz.f194]) ?_;rintro⟨W,H,n,K,j⟩ _ a ⟨⟨rfl,c,e,o,q,T⟩,u⟩ bp C;simp only at c e o q T u;simp at C;obtain⟨b,M⟩:=C;obtain⟨m,R,S⟩:=e.2.2.2.2.2;have a6:=c.lt;have U:(K=a.size)=False:=dB;obtain⟨bn,a7,bk,next,O,A,gO,aX⟩:=c.ex;simp only[tu]at A;have E:=c.hr.cons (dG 11 0 [j.t]);have l1:=Lb.new c.hr.lt c.hr.fp (dG 11 0 [j.t]);have x:=Step.cons c.ok.hr c.hr.lt (dG 11 0 [j.t]);have J:=λ{tb:fJ} (a:tb.p 110=some Bp) l=>NI a H l dz;have z:=λ{tb:fJ} (a:tb.p 231=some qU) l=>LI a W l e.1;have Y:=j.lF;have D:=q.ex (.inl u);simp[Tryz.f194,b,M,A,U];cases g:j.index with
 |cons l r=>
  have X:=q.arr u (by rw[g];simp);have Z:=q.ind l (by rw[g];simp);rw[g,dW.j7]at Y;simp[b,g];refine Iv dA E e o Z dz λN w f ap av h=> ?_;have l2:=l1.step f;simp only[oa]at l2;simp[b,l2.get,ou];refine Iv dA h e o D dz λaN ae G a8 bi F=> ?_;have l3:=l2.step G;obtain⟨aE,an,aA,al,I,d,L,P⟩:=F.ex;simp only[tu]at d;simp[b,l3.get,d,z,X,S,R,ou];refine oF dA F dz λB k i=> ?_;simp;exact⟨rfl,(((x.trans f).trans G).trans k).out,ae+1,dC,dC,i.out⟩
 |nil=>
  simp[b,g];refine Iv dA E e o D dz λN w f ap av h=> ?_;have l2:=l1.step f;simp only[oa]at l2;obtain⟨aE,an,aA,al,I,d,L,P⟩:=h.ex;simp only[tu]at d;simp[b,l2.get,d,J];refine ee (λQ=> ?_) (λQ=> ?_)
  ·simp[b];refine oF dA h dz λB k i=> ?_;simp;exact⟨rfl,((x.trans f).trans k).out,w+1,dC,dC,i.out⟩
  ·simp[b,l2.get,d,z];refine oF dA h dz λB k i=> ?_;simp;exact⟨rfl,((x.trans f).trans k).out,w+1,dC,dC,i.out⟩
def Fj:lf:=⟨λd a=>∃W c f b h,d=[.ptr b 0 0 0,.str h]/\Gn W c f a b/\okW W,λ_ a g e=>e=a/\EQ g⟩
def Pv:Fj.Ok Tryz.prog cx 197:=by
 refine IU (tb:=⟨pt [],ht []⟩) fa eQ (iR 67117107 [] Tryz.func197) false (λ_ _=>1000005) (λt f q=>by obtain⟨W,l,r,i,k,rfl,_⟩:=q;simp[Tryz.f197]) ?_;rintro _ f ⟨W,l,r,i,k,rfl,e,m⟩ b j;simp at j;obtain⟨a,c⟩:=j;obtain⟨y,w,x,next,s,g,gO,u⟩:=e.ex;simp only[tu]at g;have hl:=m.2.2.1;simp[Tryz.f197];refine fy W.gW.length dz (λe b h=>h=hr f/\dH b 0 (.ptr i 0 0 0)/\dH b 1 (.str k)/\dH b 5 (dE e)) ?_ ?_ dz (by simp[a,c])
 ·rintro v b h p n ⟨rfl,a,c,d⟩;simp[a,c,d,g,p];refine ee (λo=> ?_) (λo=> ?_)
  ·simp[d];exact qh f _ _ e.ok.hp (Fr.refl _ _) rfl ⟨rfl,dA⟩
  ·simp[a,c,d,n]
 ·rintro b h ⟨rfl,a,c,d⟩;simp[a,d,g];exact qh f _ _ e.ok.hp (Fr.refl _ _) rfl ⟨rfl,dA⟩
def Gn.opn{W:d8}{r:List (List Nat)}{a:Nat}{j:H}{h:Nat}(u:Gn W r a j h)(x:0<a):∃p o next,∃b:List fT,∃c g q k f,j.get h=some (dG 10 p [.agg (tu W r (.arr c g 0 a false) o next)])/\j.get c=some ⟨6,g,q,k,false,f⟩/\c≠h/\Fp j h c/\f.take a=b.map fT.t/\b.length=a/\∀e,e<a->∃w:fT,f[e]? =some w.t:=by
 obtain⟨p,y,o,next,b,i,gO,n⟩:=u.ex;rcases gO with⟨_,d⟩|⟨c,g,q,k,f,rfl,d,m⟩
 ·simp at d;subst d;simp at n;omega
 rw[aG,n]at i m;refine⟨p,o,next,b,c,g,q,k,f,i,d,λv=>by subst v;rw[i]at d;simp at d,.inr ⟨_,i,.arr c g 0 a false,by simp[fw,T.cells,tu],rfl⟩,m,n,λe s=>⟨b[e],?_⟩⟩;have:(f.take a)[e]? =(b.map fT.t)[e]? :=by rw[m]
 rw[bO,aq s,aU,az (l:=b) dz]at this;exact this
def RU(W:d8)(e:List (List Nat))(d b g:Nat)(f c:H):Prop:=Step b f c/\∃a,d<=a/\a<=d+g/\Gn W e a c b
structure abZ where
 (W:d8) (L:List (List Nat)) (n g:Nat) (l:List dQ)
def VI(a:abZ)(b:List T)(c:H):Prop:=b=[.ptr a.g 0 0 0,sl (a.l.map dQ.t)]/\Gn a.W a.L a.n c a.g/\okW a.W/\a.L.length<=1000000/\(∀d∈a.l,MS d)/\a.n+dQ.ws a.l<=10000000
abbrev DE(e:Nat):lf:=jw abZ (λa c b=>VI a c b/\dQ.ws a.l<e) (λa _ b f d=>f= .tuple []/\RU a.W a.L a.n a.g (dQ.ws a.l) b d)
abbrev rSt(d:Nat):lf:=jw XD (λa b c=>Ce a b c/\a.s.w<d) xJ
def LG{j:Nat}(z:(DE j).Ok Tryz.prog cx 95){g:fJ}{n:Nat}{W:d8}{f:List (List Nat)}{d b:Nat}{a:List dQ}{i:H}{o:af Oper}{l:aa Tmp}{m:List Oper}{q p:fW}{k:iM}(ht:g.h 95=some (DE j))(y:Gn W f d i b)(u:okW W)(s:f.length<=1000000)(x:∀D∈a,MS D)(w:d+dQ.ws a<=10000000)(v:dQ.ws a<j)
 (r:∀c e,Step b i c->d<=e->e<=d+dQ.ws a->Gn W f e c b->XK (some (.tuple [],c)) cx (qZ Tryz.prog cx g) n o l m q p k):XK (hl Tryz.prog cx g 95 [.ptr b 0 0 0,sl (a.map dQ.t)] i) cx (qZ Tryz.prog cx g) n o l m q p k:=
 iq z ht ⟨W,f,d,b,a⟩ ⟨⟨rfl,y,u,s,x,w⟩,v⟩ (by rintro _ c ⟨rfl,a,e,A,B,C⟩;exact r c e a A B C)
def A2(Y:Nat)(aE:(DE Y).Ok Tryz.prog cx 95):(jw XD (λi a N=>(Ce i a N/\i.s.w<Y+1)/\(i.s.op=2\/i.s.op=3)) xJ).Ok Tryz.prog cx 195:=by
 refine jo (tb:=⟨pt [],ht [(96,jw Du uE qW),(198,Oe),(95,DE Y)]⟩) fa eQ (iR 590296373308659073275 [] Tryz.func195) (λ_ _=>5) (λi a N b7=>by obtain⟨⟨⟨rfl,_⟩,_⟩,_⟩:=b7;simp[Tryz.f195]) ?_;rintro⟨W,M,n,o,T⟩ _ N ⟨⟨⟨rfl,l,R,P,Q,bX⟩,bS⟩,aA⟩ eF av;simp only at l R P Q bX aA bS;simp at av;obtain⟨g,bu⟩:=av;have ea:=l.lt;have b6:(o=N.size)=False:=dB;obtain⟨eB,eh,cX,next,O,al,gO,dv⟩:=l.ex;simp only[tu]at al;have b8:=l.hr.cons (dG 11 0 [T.t]);have l1:=Lb.new l.hr.lt l.hr.fp (dG 11 0 [T.t]);have c1:=Step.cons l.ok.hr l.hr.lt (dG 11 0 [T.t]);have eb:=T.lF;have bT:=Q.ex (by rcases aA with q|q<;>simp[q]);simp[Tryz.f195,g,bu,al,b6,gO.len (cx:=cx)];refine Iv dA b8 R P bT dz λdi j a7 p1 p2 aN=> ?_;have l2:=l1.step a7;simp only[oa]at l2;obtain⟨eC,eo,eu,ec,c9,an,bn,bB⟩:=aN.ex;simp only[tu]at an;simp[g,an,bn.len (cx:=cx),bB];refine oF dA aN dz λdk a8 b9=> ?_;have l3:=l2.step a8;simp[g,l3.get];refine LG aE dA b9 R P Q.bd dz dz λbz e bi p3 p4 aX=> ?_;have l4:=l3.step bi;obtain⟨eD,er,ey,cp,dd,V,bp,bC⟩:=aX.ex;obtain⟨Z,A⟩:=aX.HI V bp bC cX cp;simp only[tu]at V Z A;have l5:=l4.step Z;have ae:=(((c1.trans a7).trans a8).trans bi).trans Z;simp[g,V,dZ];generalize dY bz o _=dm at*
 simp[l5.get];refine ee (λX=> ?_) (λX=> ?_)
 ·simp[g];refine oF dA A dz λE U G=> ?_;obtain⟨J,I,H,B,z,C,K,D,L,d,f,r,p,v,F,u⟩:=G.opn dz;obtain⟨x,k⟩:=u j dz;have h:j<e+1:=dz;obtain⟨m,y⟩:=G.elem (i:=j) (x:=⟨x.op,x.a,((e+1:Nat):Int),x.c,x.n,x.jk⟩) f p r ⟨J,_,I,H,B,d,rfl,v,F,h⟩;simp only[tu]at d;simp[g,d,f,k,h];exact⟨rfl,((ae.trans U).trans (by simpa using m)).out,e+1,dC,dC,(by simpa using y:Gn W M (e+1) _ o).out⟩
 simp[l5.get];refine ee (λX=> ?_) (λX=> ?_)
 ·simp[g];obtain⟨J,I,H,B,z,C,K,D,L,d,f,r,p,v,F,u⟩:=A.opn dz;obtain⟨x,k⟩:=u j dz;have h:j<e:=dz;obtain⟨m,y⟩:=A.elem (i:=j) (x:=⟨x.op,x.a,(e:Int),x.c,x.n,x.jk⟩) f p r ⟨J,_,I,H,B,d,rfl,v,F,h⟩;simp only[tu]at d;simp[g,d,f,k,h];exact⟨rfl,(ae.trans (by simpa using m)).out,e,dC,dC,(by simpa using y:Gn W M e _ o).out⟩
 obtain⟨eE,et,eA,ef,de,ap,bs,bH⟩:=A.ex;simp only[tu]at ap;simp[g,ap,bs.len (cx:=cx),bH];refine oF dA A dz λE U G=> ?_;have l6:=l5.step U;obtain⟨J,I,H,B,z,C,K,D,L,d,f,r,p,v,F,u⟩:=G.opn dz;obtain⟨x,k⟩:=u j dz;have h:j<e+1:=dz;obtain⟨m,y⟩:=G.elem (i:=j) (x:=⟨x.op,x.a,((e+1:Nat):Int),x.c,x.n,x.jk⟩) f p r ⟨J,_,I,H,B,d,rfl,v,F,h⟩;simp only[tu]at d;simp[g,d,f,k,h];replace m:Step o E (dY E z ⟨6,C,K+1,D,false,L.set j (fT.t ⟨x.op,x.a,(e:Int)+1,x.c,x.n,x.jk⟩)⟩):=by simpa using m
 replace y:Gn W M (e+1) (dY E z ⟨6,C,K+1,D,false,L.set j (fT.t ⟨x.op,x.a,(e:Int)+1,x.c,x.n,x.jk⟩)⟩) o:=by simpa using y
 have cb:=l6.step m;generalize dY E z _=dn at*
 clear d f k;simp[cb.get];refine LG aE dA y R P Q.el dz dz λds S c4 p5 p6 a6=> ?_;have GZ:=((ae.trans U).trans m).trans c4;obtain⟨c7,cL,ce,bk,z,C,K,D,L,d,f,r,p,v,bN,u⟩:=a6.opn dz;obtain⟨x,k⟩:=u e dz;have h:e<S:=dz;obtain⟨c6,ca⟩:=a6.elem (i:=e) (x:=⟨x.op,(S:Int),x.b,x.c,x.n,x.jk⟩) f p r ⟨c7,_,cL,ce,bk,d,rfl,v,bN,h⟩;simp only[tu]at d;simp[g,d,f,k,h];exact⟨rfl,(GZ.trans (by simpa using c6)).out,S,dC,dC,(by simpa using ca:Gn W M S _ o).out⟩
structure IAr where
 (W:d8) (L:List (List Nat)) (n g:Nat) (s:dQ) (a b o:Int)
def us(j:Nat)(N:(DE j).Ok Tryz.prog cx 95):(jw IAr (λc A e=>A=[.ptr c.g 0 0 0,c.s.t,dE c.a,dE c.b,dE c.o]/\Ce ⟨c.W,c.L,c.n,c.g,c.s⟩ [.ptr c.g 0 0 0,c.s.t] e/\c.s.w<j+1) (λc _ e U D=>xJ ⟨c.W,c.L,c.n,c.g,c.s⟩ [] e U D)).Ok Tryz.prog cx 196:=by
 refine jo (tb:=⟨pt [],ht [(96,jw Du uE qW),(95,DE j)]⟩) fa eQ (iR 1119 [] Tryz.func196) (λ_ _=>5) (λc z e M=>by obtain⟨rfl,_⟩:=M;simp[Tryz.f196]) ?_;rintro⟨W,L,n,B,f,z,b,o⟩ _ e ⟨rfl,⟨_,d,q,m,p,J⟩,I⟩ bi r;simp only at d q m p J I;simp at r;obtain⟨i,E,F,G,l⟩:=r;have aA:=d.lt;have K:(B=e.size)=False:=dB;obtain⟨a7,aN,V,next,O,k,gO,av⟩:=d.ex;simp only[tu]at k;have P:=d.hr.cons (dG 11 0 [f.t]);have l1:=Lb.new d.hr.lt d.hr.fp (dG 11 0 [f.t]);have X:=Step.cons d.ok.hr d.hr.lt (dG 11 0 [f.t]);have aE:=f.lF;simp[Tryz.f196,i,E,F,l,k,K];refine oF dA P dz λal x Q=> ?_;have l3:=l1.step x;simp only[oa]at l3;simp[i,l3.get];refine LG N dA Q q m p.bd dz dz λan S Y p3 p4 u=> ?_;obtain⟨a8,aX,a6,T,ae,h,C,H⟩:=u.ex;obtain⟨y,v⟩:=u.HI h C H V T;simp only[tu]at h y v;simp[i,G,l,h,dZ];refine oF dA v dz λap Z R=> ?_;simp;exact⟨rfl,((((X.trans x).trans Y).trans y).trans Z).out,S+1,dC,dC,R.out⟩
def NU(m:Nat)(E:(rSt m).Ok Tryz.prog cx 148):(DE m).Ok Tryz.prog cx 95:=by
 refine jo (tb:=⟨pt [],ht [(148,rSt m)]⟩) fa eQ (iR 275 [] Tryz.func95) (λ_ _=>10000005) (λc G r D=>by obtain⟨⟨rfl,_⟩,_⟩:=D;simp[Tryz.f95]) ?_;rintro⟨W,q,n,f,l⟩ _ r ⟨⟨rfl,j,v,s,u,C⟩,B⟩ d w;simp only at j v s u C B;simp at w;obtain⟨e,b⟩:=w;have hl:=dQ.uN (l:=l);simp[Tryz.f95];refine fy l.length dz (λc d g=>Step f (hr r) g/\(∃a,n<=a/\a<=n+dQ.ws (l.take c)/\Gn W q a g f)/\dH d 0 (.ptr f 0 0 0)/\dH d 1 (sl (l.map dQ.t))/\dH d 4 (dE c)) ?_ ?_ dz (by simp[e,b,Step.refl j.ok.hr];exact⟨n,au _,dz,j.hr⟩)
 ·rintro c d g i A ⟨p,⟨a,y,o,k⟩,e,b,h⟩;have K:=dQ.Fa l i;have J:=dQ.xw l (c+1);have I:=dQ.vn (aC i);simp[e,b,h,i];refine iq E dA ⟨W,q,a,f,l[c]⟩ ⟨⟨rfl,k,v,s,u _ (aC i),dC⟩,dC⟩ ?_;rintro _ H ⟨rfl,z,F,p1,p2,x⟩;simp only at z p1 p2 x;simp[e,b,h,A];exact⟨p.trans z,F,dz,dz,x⟩
 ·rintro d g ⟨p,⟨a,y,o,k⟩,e,b,h⟩;rw[aO]at o;simp[b,h];exact⟨p.out,a,y,o,k.out⟩
def RM(A:Nat)(K:(DE A).Ok Tryz.prog cx 95):(rSt (A+1)).Ok Tryz.prog cx 148:=by
 obtain⟨F,a6⟩:=hlI Pv (λ_ _ _ _ G=>G);refine jo (tb:=⟨pt [(110,Bp),(146,qR)],ht [(96,jw Du uE qW),(198,Oe),(194,jw XD (λe M i=>Ce e M i/\e.s.op=1) xJ),(195,jw XD (λe M i=>(Ce e M i/\e.s.w<A+1)/\(e.s.op=2\/e.s.op=3)) xJ),
  (196,jw IAr (λe ap i=>ap=[.ptr e.g 0 0 0,e.s.t,dE e.a,dE e.b,dE e.o]/\Ce ⟨e.W,e.L,e.n,e.g,e.s⟩ [.ptr e.g 0 0 0,e.s.t] i/\e.s.w<A+1) (λe _ i r j=>xJ ⟨e.W,e.L,e.n,e.g,e.s⟩ [] i r j)),(197,Fj)]⟩) fa eQ (iR 365376106316094180278949616271352870286206697499 [(11,[(1,9)]),(13,[(1,9)]),(15,[(1,9)]),(34,[(7,12),(7,14)])] Tryz.func148) (λ_ _=>5) (λe M i bi=>by obtain⟨⟨rfl,_⟩,_⟩:=bi;simp[Tryz.f148]) ?_
 rintro⟨W,B,k,y,l⟩ _ i ⟨⟨rfl,G,x,D,E,I⟩,J⟩ dv Y;simp only at G x D E I J;simp at Y;obtain⟨C,aX⟩:=Y;have b9:=G.lt;have ca:(y=i.size)=False:=dB;obtain⟨di,cL,c7,next,O,aA,gO,b6⟩:=G.ex;have ae:=G.hr.cons (dG 11 0 [l.t]);have l1:=Lb.new G.hr.lt G.hr.fp (dG 11 0 [l.t]);have bs:=Step.cons G.ok.hr G.hr.lt (dG 11 0 [l.t]);have cb:=l.lF;obtain⟨dk,cX,c9,an,bz,Q,aE,a7⟩:=ae.ex;obtain⟨T,S⟩:=ae.HI Q aE a7 an an;obtain⟨dm,c1,bp,bn,bB,R,aN,a8⟩:=S.ex;obtain⟨U,f⟩:=S.HI R aN a8 bp (IntKind.i64.wrap (bn+1));have l3:=(l1.step T).step U;simp only[tu,oa]at aA Q T S R U f l3;simp[Tryz.f148,C,aX,Q,dZ,R,ou];have m:=(bs.trans T).trans U;have N:=λ{tb:fJ} (ht:tb.h 197=some Fj) H=>a6 ht [.ptr y 0 0 0,.str H] _ ⟨W,B,k,y,H,rfl,f,x⟩;generalize dY (dY _ y _) y _=bT at*
 obtain⟨dn,c4,dd,ce,bC,z,bN,b7⟩:=f.ex;simp only[tu]at z;have av:=λ{tb:fJ} (i:tb.p 110=some Bp) H=>NI i B H dz;have eT:=λ{tb:fJ} (i:tb.p 110=some Bp) H=>NI i W.dK H (by have:=x.2.2.2.2.1;omega);have V:=λ{tb:fJ} (i:tb.p 110=some Bp) H=>NI i W.eg H (by have:=x.2.2.2.1;omega);have P:=λ{tb:fJ} (i:tb.p 146=some qR) H=>LH i W.em H x.2.1;simp[z,l3.get]
 repeat' (refine ee (λZ=> ?_) (λZ=> ?_)<;>simp[Z,C,l3.get])
 ·try simp[C,l3.get]
  refine iq JH dA ⟨W,B,k,y,l⟩ ⟨⟨rfl,f,x,D,E,I⟩,by simpa using‹decide (l.op=1)=true›⟩ ?_;rintro _ j ⟨rfl,c,q,u,v,d⟩;simp;exact⟨rfl,(m.trans c).out,q,u,v,d.out⟩
 ·try simp[C,l3.get]
  refine iq (A2 A K) dA ⟨W,B,k,y,l⟩ ⟨⟨⟨rfl,f,x,D,E,I⟩,J⟩,.inl (by simpa using‹decide (l.op=2)=true›)⟩ ?_;rintro _ j ⟨rfl,c,q,u,v,d⟩;simp;exact⟨rfl,(m.trans c).out,q,u,v,d.out⟩
 ·try simp[C,l3.get]
  refine iq (A2 A K) dA ⟨W,B,k,y,l⟩ ⟨⟨⟨rfl,f,x,D,E,I⟩,J⟩,.inr (by simpa using‹decide (l.op=3)=true›)⟩ ?_;rintro _ j ⟨rfl,c,q,u,v,d⟩;simp;exact⟨rfl,(m.trans c).out,q,u,v,d.out⟩
 ·simp[l3.get,z,P];refine li (us A K) dA ⟨W,B,k,y,l,11,12,_⟩ ⟨rfl,⟨rfl,f,x,D,E,I⟩,J⟩ ?_;rintro _ j ⟨rfl,c,q,u,v,d⟩;simp;exact⟨rfl,(m.trans c).out,q,u,v,d.out⟩
 ·simp[l3.get,z,P];refine li (us A K) dA ⟨W,B,k,y,l,13,14,_⟩ ⟨rfl,⟨rfl,f,x,D,E,I⟩,J⟩ ?_;rintro _ j ⟨rfl,c,q,u,v,d⟩;simp;exact⟨rfl,(m.trans c).out,q,u,v,d.out⟩
 ·simp[l3.get,z,P];refine li (us A K) dA ⟨W,B,k,y,l,15,16,_⟩ ⟨rfl,⟨rfl,f,x,D,E,I⟩,J⟩ ?_;rintro _ j ⟨rfl,c,q,u,v,d⟩;simp;exact⟨rfl,(m.trans c).out,q,u,v,d.out⟩
 ·try simp[C,l3.get,z]
  refine iq (us A K) dA ⟨W,B,k,y,l,17,18,_⟩ ⟨rfl,⟨rfl,f,x,D,E,I⟩,J⟩ ?_;rintro _ j ⟨rfl,c,q,u,v,d⟩;simp;exact⟨rfl,(m.trans c).out,q,u,v,d.out⟩
 ·try simp[C,l3.get,z]
  refine iq (us A K) dA ⟨W,B,k,y,l,19,20,_⟩ ⟨rfl,⟨rfl,f,x,D,E,I⟩,J⟩ ?_;rintro _ j ⟨rfl,c,q,u,v,d⟩;simp;exact⟨rfl,(m.trans c).out,q,u,v,d.out⟩
 ·simp[N];refine oF dA f dz λj c d=> ?_;simp;exact⟨rfl,(m.trans c).out,k+1,dC,dC,d.out⟩
 ·simp[N];refine oF dA f dz λj c d=> ?_;simp;exact⟨rfl,(m.trans c).out,k+1,dC,dC,d.out⟩
 ·simp[N];refine oF dA f dz λj c d=> ?_;simp;exact⟨rfl,(m.trans c).out,k+1,dC,dC,d.out⟩
 ·simp[l3.get,z,eT];refine oF dA f dz λj c d=> ?_;simp;exact⟨rfl,(m.trans c).out,k+1,dC,dC,d.out⟩
 ·simp[l3.get,z,eT];refine oF dA f dz λj c d=> ?_;simp;exact⟨rfl,(m.trans c).out,k+1,dC,dC,d.out⟩
 ·try simp[C,l3.get,z]
  refine Iv dA f x D (E.ex (.inr (.inr (.inr (by simpa using‹decide (l.op=14)=true›))))) dz λbX bk c p1 p2 al=> ?_;obtain⟨ds,c6,de,cp,bH,X,bS,b8⟩:=al.ex;simp only[tu]at X;simp[C,(l3.step c).get,X,V];refine oF dA al dz λj bu d=> ?_;simp;exact⟨rfl,((m.trans c).trans bu).out,bk+1,dC,dC,d.out⟩
 ·simp[C,l3.get,z,av,V];refine abH dA f dz λj c d=> ?_;simp;exact⟨rfl,(m.trans c).out,k+1,dC,dC,d.out⟩
 ·exact⟨rfl,m.out,k,au _,dC,f.out⟩
def My(a:Nat):(DE a).Ok Tryz.prog cx 95:=by
 induction a with
 |zero=>intro d e ⟨f,_,b⟩;exact absurd b (Nat.not_lt_zero _)
 |succ a c=>exact NU (a+1) (RM a c)
end
end Go.Proofs.YtmaeadedikngoaaGreatDoor
