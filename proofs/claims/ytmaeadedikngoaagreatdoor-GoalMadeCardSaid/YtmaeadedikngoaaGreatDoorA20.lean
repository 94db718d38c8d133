/- Texts W06m to W06n. -/
import Derived.Test.YtmaeadedikngoaaGreatDoorA19
set_option linter.unusedVariables false
set_option linter.unusedSimpArgs false
set_option maxRecDepth 100000
set_option maxHeartbeats 8000000
namespace Go.Proofs.YtmaeadedikngoaaGreatDoor
noncomputable section
open Go Go.TI
attribute [-simp] List.map_take List.map_drop List.map_append fi ei dT Bool.not_or Bool.not_and
attribute [simp] fh ew
def pW:fK:=⟨dJ×List Nat,λa=>[a.1.t,.str a.2],λa=>a.1.cells.length<=1000000,λa=> .int .i64 (qV (a.1.cells.map fN.name) a.2 0),λa c b=>by
 simp at b;rw[dJ.inj b.1,b.2]⟩
theorem Nf:pW.Ok Tryz.prog cx 231:=by
 refine f8 (tb:=⟨pt [],ht []⟩) dX dU (iN 1049655 [] Tryz.func231) (λo=>o.1.cells.length+1) (by simp[pW]) (by simp[pW,Tryz.f231]) ?_
 rintro⟨k,l⟩ hl b m
 simp[pW]at hl m|-
 obtain⟨p,c⟩:=m
 simp[Tryz.f231,p]
 refine eQ k.cells.length (by omega) (λi b g=>gh 1 g/\g.get 0=some ⟨6,0,0,true,false,[k.t]⟩/\TI.dt b 1=some (.str l)/\TI.dt b 2=some (.ptr 0 0 0 0)/\TI.dt b 5=some (.int .i64 i)/\qV ((k.cells.drop i).map fN.name) l i=qV (k.cells.map fN.name) l 0) ?_ ?_ (by omega) (by simp[c])
 ·rintro i b g n q ⟨j,f,c,h,d,a⟩
  rw[aJ n,aU,qV]at a
  simp[f,c,h,d,n]
  refine dM (λe=> ?_) (λe=> ?_)
  ·simp at e;rw[aq e]at a
   simp[d,<-a,j.hp]
  ·simp at e;rw[ao e]at a
   simp[f,c,h,d,q,a,j]
 ·rintro b g ⟨j,f,c,h,d,a⟩
  simp[qV]at a
  simp[f,h,d,<-a,j.hp]
theorem JT{c:eG}(ht:c.p 231=some pW)(a:dJ)(b:List Nat)(hl:a.cells.length<=1000000):rl Tryz.prog cx c 231 [a.t,.str b]=some (.int .i64 (qV (a.cells.map fN.name) b 0)):=fR ht Nf (a,b) hl
def pT:fK:=⟨List gH×List Nat,λa=>[sl (a.1.map gH.t),.str a.2],λa=>a.1.length<=1000000,λa=> .int .i64 (qV (a.1.map gH.name) a.2 0),λa c b=>by
 simp at b;rw[ja (λ_ _=>gH.inj) b.1,b.2]⟩
theorem MR:pT.Ok Tryz.prog cx 146:=by
 refine f8 (tb:=⟨pt [],ht []⟩) dX dU (iN 262707 [] Tryz.func146) (λm=>m.1.length+1) (by simp[pT]) (by simp[pT,Tryz.f146]) ?_
 rintro⟨h,j⟩ hl c k
 simp[pT]at hl k|-
 obtain⟨b,d⟩:=k
 simp[Tryz.f146]
 refine eQ h.length (by omega) (λg c i=>i=hE/\TI.dt c 0=some (sl (h.map gH.t))/\TI.dt c 1=some (.str j)/\TI.dt c 5=some (.int .i64 g)/\qV ((h.drop g).map gH.name) j g=qV (h.map gH.name) j 0) ?_ ?_ (by omega) (by simp[b,d])
 ·rintro g c i l n ⟨rfl,b,d,e,a⟩
  rw[aJ l,aU,qV]at a
  simp[b,d,e,l]
  refine dM (λf=> ?_) (λf=> ?_)
  ·simp at f;rw[aq f]at a
   simp[e,<-a]
  ·simp at f;rw[ao f]at a
   simp[b,d,e,n,a]
 ·rintro c i ⟨rfl,b,d,e,a⟩
  simp[qV]at a
  simp[b,e,<-a]
theorem JS{c:eG}(ht:c.p 146=some pT)(a:List gH)(b:List Nat)(hl:a.length<=1000000):rl Tryz.prog cx c 146 [sl (a.map gH.t),.str b]=some (.int .i64 (qV (a.map gH.name) b 0)):=fR ht MR (a,b) hl
def rO(W:dJ)(a:List (List Nat))(b:T)(c next:Int):List T:=
 [sl (W.cells.map fN.t),sl (W.dP.map gH.t),sl (W.fP.map iC.t),sl (W.dR.map T.str),sl (W.dp.map T.str),sl (W.gW.map gY.t),sl (a.map T.str),b,.int .i64 c,.int .i64 next]
structure Gn(W:dJ)(L:List (List Nat))(n:Nat)(h:H)(g:Nat):Prop where
 ok:gh 0 h
 fp:∀b,Fp h g b->b<h.size
 ex:∃ver ov iF next,∃O:List fa,h.get g=some ⟨10,0,ver,true,false,[.agg (rO W L ov iF next)]⟩/\Gr h ov 6 (O.map fa.t)/\O.length=n
theorem Gn.lt{W:dJ}{c:List (List Nat)}{e:Nat}{b:H}{a:Nat}(d:Gn W c e b a):a<b.size:=d.fp a (.inl rfl)
theorem Gn.same{W:dJ}{f:List (List Nat)}{k:Nat}{c d:H}{b:Nat}(j:Gn W f k c b)(q:gh 0 d)(h:∀a,Fp c b a->d.get a=c.get a)(p:c.size<=d.size):Gn W f k d b:=by
 obtain⟨s,l,r,next,m,g,n,o⟩:=j.ex
 have i:=h b (.inl rfl)
 exact⟨q,λa e=>by rw[iH i]at e;exact bD (j.fp a e) p,s,l,r,next,m,by rw[i];exact g,n.mono λa e=>h a (.inr ⟨_,g,l,by simp[d6,T.cells,rO],e⟩),o⟩
theorem Gn.cons{W:dJ}{b:List (List Nat)}{e:Nat}{d:H}{c:Nat}(a:Gn W b e d c)(f:iE):Gn W b e (d.cons f) c:=
 a.same (a.ok.cons f) (λg h=>by rw[dH,ao (by have:=a.fp g h;omega)]) (by simp)
theorem Gn.hr{W:dJ}{b:List (List Nat)}{e:Nat}{a:H}{c:Nat}(d:Gn W b e a c):Gn W b e (TI.hr a) c:=d.same d.ok.hr (λf _=>fU a f) (au _)
theorem Gn.out{W:dJ}{b:List (List Nat)}{e:Nat}{h a:H}{c:Nat}(d:Gn W b e a c):Gn W b e (kV h a) c:=d.same (d.ok.out h) (λf _=>fj h a f) (au _)
theorem Gn.FI{W:dJ}{a:List (List Nat)}{h b f:Nat}{c:H}{d:T}{q next:Int}{g:List fa}(k:Gn W a h c b)(l:c.get b=some ⟨10,0,f,true,false,[.agg (rO W a d q next)]⟩)(gO:Gr c d 6 (g.map fa.t))(m:g.length=h)(e next':Int):
 Step b c (dI c b ⟨10,0,f+1,true,false,[.agg (rO W a d e next')]⟩)/\Gn W a h (dI c b ⟨10,0,f+1,true,false,[.agg (rO W a d e next')]⟩) b:=by
 obtain⟨i,n,o,p⟩:=DD k.ok k.fp l (cells':=rO W a d e next') (λr j=>by
  simp[rO]at j|-
  rcases j with rfl|rfl|rfl|rfl|rfl|rfl|rfl|rfl|rfl|rfl<;>simp) _ rfl
 exact⟨i,⟨i.ok.hp,i.ok.low,aw _⟩,n,f+1,d,e,next',g,o,p _ _ _ gO (by decide),m⟩
theorem Gn.app{W:dJ}{b:List (List Nat)}{n a f:Nat}{c d:H}{h j:T}{e next:Int}{g:List fa}{x:fa}(o:Gn W b n c a)(k:c.get a=some ⟨10,0,f,true,false,[.agg (rO W b h e next)]⟩)(gO:Gr c h 6 (g.map fa.t))(r:g.length=n)(s:zQ c h 6 (g.map fa.t++[x.t]) j d):
 d.get a=some ⟨10,0,f,true,false,[.agg (rO W b h e next)]⟩/\dY c d a=true/\Step a c (dI d a ⟨10,0,f+1,true,false,[.agg (rO W b j e next)]⟩)/\Gn W b (n+1) (dI d a ⟨10,0,f+1,true,false,[.agg (rO W b j e next)]⟩) a:=by
 obtain⟨l,u⟩:=vd (i:=7) o.ok o.fp k rfl (by decide) gO s.xt
 obtain⟨m,p,q,v⟩:=u _ rfl
 exact⟨l.trans k,ee l,m,⟨m.ok.hp,m.ok.low,aw _⟩,p,f+1,j,e,next,g++[x],by rw[dy (l.trans k),aq rfl],by rw[List.map_append];exact q,by simp[r]⟩
theorem Gn.elem{W:dJ}{k:List (List Nat)}{g c b d h:Nat}{f:Bool}{a:H}{e:List T}{i:Nat}{x:fa}(u:Gn W k g a c)(m:a.get b=some ⟨6,d,h,f,false,e⟩)(A:Fp a c b)(r:b≠c)
 (B:∃q n o next,∃j:List fa,a.get c=some ⟨10,0,q,true,false,[.agg (rO W k n o next)]⟩/\n= .arr b d 0 g false/\e.take g=j.map fa.t/\j.length=g/\i<g):
 Step c a (dI a b ⟨6,d,h+1,f,false,e.set i x.t⟩)/\Gn W k g (dI a b ⟨6,d,h+1,f,false,e.set i x.t⟩) c:=by
 obtain⟨q,n,o,next,j,y,rfl,z,l,C⟩:=B
 have p:=Step.ac9 u.ok m A r ⟨6,d,h+1,f,false,e.set i x.t⟩
 have s:(dI a b ⟨6,d,h+1,f,false,e.set i x.t⟩).get c=a.get c:=by rw[dy m,ao (br r)]
 refine⟨p,⟨p.ok.hp,p.ok.low,aw _⟩,λw v=>by rw[iH s]at v;rw[fc];exact u.fp w v,q,_,o,next,j.set i x,by rw[s];exact y,.inr ⟨b,d,h+1,f,e.set i x.t,by simp[l],by rw[dy m,aq rfl],?_⟩,by simp[l]⟩
 rw[aH,List.length_set,l,List.take_set,z,bV]
structure B2 where
 (W:dJ) (L:List (List Nat)) (n g:Nat) (i:fa)
def tv(a:B2)(b:List T)(c:H):Prop:=b=[.ptr a.g 0 0 0,a.i.t]/\Gn a.W a.L a.n c a.g/\a.n<=100000000
def pY(a:B2)(e:List T)(c:H)(d:T)(b:H):Prop:=d= .tuple []/\Step a.g c b/\Gn a.W a.L (a.n+1) b a.g
theorem Jg:(jM B2 tv pY).Ok Tryz.prog cx 96:=by
 refine iU (tb:=⟨pt [],ht []⟩) dX dU (iN 11 [] Tryz.func96) (λ_ _=>5) (λd M h H=>by obtain⟨rfl,_⟩:=H;simp[Tryz.f96]) ?_
 rintro⟨W,v,P,j,d⟩ _ h ⟨rfl,f,F⟩ S p
 simp only at f F
 simp at p
 obtain⟨B,C⟩:=p
 have O:=f.lt
 have G:(j=h.size)=False:=by simp;omega
 obtain⟨L,l,e,next,y,g,gO,D⟩:=f.ex
 have k:=(f.hr.cons ⟨6,0,1,true,false,[fa.t ⟨d.op,d.a,d.b,d.c,d.n,e⟩]⟩)
 have q:=k.cons ⟨6,0,0,true,false,[fa.t ⟨d.op,d.a,d.b,d.c,d.n,e⟩]⟩
 have K:=(Step.cons (w:=j) f.ok.hr f.lt ⟨6,0,1,true,false,[fa.t ⟨d.op,d.a,d.b,d.c,d.n,e⟩]⟩).trans (Step.cons k.ok k.lt ⟨6,0,0,true,false,[fa.t ⟨d.op,d.a,d.b,d.c,d.n,e⟩]⟩)
 have A:(((hr h).cons ⟨6,0,1,true,false,[fa.t ⟨d.op,d.a,d.b,d.c,d.n,e⟩]⟩).cons ⟨6,0,0,true,false,[fa.t ⟨d.op,d.a,d.b,d.c,d.n,e⟩]⟩).get j=some ⟨10,0,L,true,false,[.agg (rO W v l e next)]⟩:=by
  rw[dH,ao (by simp;omega),dH,ao (by simp;omega),fU];exact g
 have o:Gr (((hr h).cons ⟨6,0,1,true,false,[fa.t ⟨d.op,d.a,d.b,d.c,d.n,e⟩]⟩).cons ⟨6,0,0,true,false,[fa.t ⟨d.op,d.a,d.b,d.c,d.n,e⟩]⟩) l 6 (y.map fa.t):=gO.mono λm E=>by
  have:m<h.size:=f.fp m (.inr ⟨_,g,l,by simp[d6,T.cells,rO],E⟩)
  rw[dH,ao (by simp;omega),dH,ao (by simp;omega),fU]
 obtain⟨R,N,z,i⟩:=o.app (cx:=cx) q.ok (x:= .arr (h.size+1) 0 0 1 false) (xs:=[fa.t ⟨d.op,d.a,d.b,d.c,d.n,e⟩]) JF rfl Qn JF rfl rfl (by simp) (by rw[fH];simp) (by simp) (by simp) (by simp;omega)
 obtain⟨r,Q,I,J⟩:=q.app A o D i
 have s:=(K.trans I).out
 have u:=J.out (h:=h)
 simp only[rO]at g r s u
 simp[Tryz.f96,B,C,g,G,z,r,i.gr.fT,i.gr.cells,dG]
 exact⟨rfl,s,u⟩
structure IQ where
 (W:dJ) (L:List (List Nat)) (n g:Nat) (e:dC) (d:Int)
def okW(W:dJ):Prop:=W.cells.length<=1000000/\W.dP.length<=1000000/\W.fP.length<=1000000/\W.dR.length<=1000000/\W.dp.length<=1000000/\∃a,a<W.cells.length/\qV (W.cells.map fN.name) [113] 0=a
def Du(a:IQ)(b:List T)(c:H):Prop:=b=[.ptr a.g 0 0 0,a.e.t,.int .i64 a.d]/\Gn a.W a.L a.n c a.g/\okW a.W/\a.L.length<=1000000/\ME a.e/\a.n+a.e.w<=10000000
def aer(W:dJ)(e:List (List Nat))(d g b:Nat)(f c:H):Prop:=Step b f c/\∃a,d<a/\a<=d+g/\Gn W e a c b
def Aa(a:IQ)(f:List T)(b:H)(d:T)(c:H):Prop:=d= .tuple []/\aer a.W a.L a.n a.e.w a.g b c
theorem ny{d:eG}{l:Nat}{W:dJ}{e:List (List Nat)}{c a:Nat}{i:fa}{f:H}{m:af Oper}{j:aa Tmp}{k:List Oper}{o n:eZ}{g:gU}(ht:d.h 96=some (jM B2 tv pY))(r:Gn W e c f a)(q:c<=100000000)
 (p:∀b,Step a f b->Gn W e (c+1) b a->XK (some (.tuple [],b)) cx (p9 Tryz.prog cx d) l m j k o n g):XK (hl Tryz.prog cx d 96 [.ptr a 0 0 0,i.t] f) cx (p9 Tryz.prog cx d) l m j k o n g:=
 gd Jg ht ⟨W,e,c,a,i⟩ ⟨rfl,r,q⟩ (by rintro _ b ⟨rfl,u,s⟩;exact p b u s)
theorem aaa{e:eG}{p:Nat}{W:dJ}{f:List (List Nat)}{d a:Nat}{l:fa}{b:H}{r:af Oper}{i:List (Nat×Nat)}{j:aa Tmp}{q:Op}{n:List Oper}{m:Nat}{o:List (Nat×Nat)}{k:List (Nat×H×H)}{u s:eZ}{g:gU}(ht:e.h 96=some (jM B2 tv pY))(x:Gn W f d b a)(w:d<=100000000)
 (v:∀c,Step a b c->Gn W f (d+1) c a->Lv (some (.tuple [],c)) cx (p9 Tryz.prog cx e) p r i j q n m o k u s b g):Lv (hl Tryz.prog cx e 96 [.ptr a 0 0 0,l.t] b) cx (p9 Tryz.prog cx e) p r i j q n m o k u s b g:=
 kA Jg ht ⟨W,f,d,a,l⟩ ⟨rfl,x,w⟩ (by rintro _ c ⟨rfl,z,y⟩;exact v c z y)
theorem LD(c:Nat)(E:(jM IQ (λf a b=>Du f a b/\f.e.w<c) Aa).Ok Tryz.prog cx 198):(jM IQ (λf a b=>Du f a b/\f.e.w<c+1) Aa).Ok Tryz.prog cx 198:=by
 refine iU (tb:=⟨pt [(110,z7),(231,pW)],ht [(96,jM B2 tv pY),(198,jM IQ (λf a b=>Du f a b/\f.e.w<c) Aa)]⟩) dX dU (iN 20282409606012871684182924853463 [] Tryz.func198) (λ_ _=>5) (λf a b al=>by obtain⟨⟨rfl,_⟩,_⟩:=al;simp[Tryz.f198]) ?_
 rintro⟨W,s,q,v,u,I⟩ _ b ⟨⟨rfl,c,k,y,hE,Y⟩,U⟩ bv l
 simp only at c k y hE Y U
 simp at l
 obtain⟨d,P,i⟩:=l
 obtain⟨m,V,X⟩:=k.2.2.2.2.2
 have a6:=c.lt
 have L:(v=b.size)=False:=by simp;omega
 obtain⟨bs,bi,bn,next,O,B,gO,aE⟩:=c.ex
 simp only[rO]at B
 have o:=c.hr.cons ⟨4,0,0,true,false,[u.t]⟩
 have l1:=Lb.new c.hr.lt c.hr.fp ⟨4,0,0,true,false,[u.t]⟩
 have r:=Step.cons c.ok.hr c.hr.lt ⟨4,0,0,true,false,[u.t]⟩
 have N:=λ{tb:eG} (b:tb.p 110=some z7) H=>LB b s H (by omega)
 have J:=λ{tb:eG} (b:tb.p 231=some pW) H=>JT b W H k.1
 have aX:=u.kJ
 simp[Tryz.f198,P]
 cases hE with
 |num a=>
  simp[d,i]
  refine ny (by simp) o (by omega) λx h g=> ?_
  simp
  exact⟨rfl,(r.trans h).out,q+1,by simp only;omega,by simp only;omega,g.out⟩
 |nm a=>
  simp[d,B,L,N]
  refine dM (λT=> ?_) (λT=> ?_)
  ·simp[d,i]
   refine ny (by simp) o (by omega) λx h g=> ?_
   simp
   exact⟨rfl,(r.trans h).out,q+1,by simp only;omega,by simp only;omega,g.out⟩
  ·simp[d,i,B,L,J]
   refine ny (by simp) o (by omega) λx h g=> ?_
   simp
   exact⟨rfl,(r.trans h).out,q+1,by simp only;omega,by simp only;omega,g.out⟩
 | @ix a l=>
  have R:(dC.mk 3 0 [113] [a]).w=1+a.w:=by rw[dC.kJ];simp[dC.jA,dC.il]
  simp[d,i]
  refine gd E (by simp) ⟨W,s,q,v,a,I⟩ ⟨⟨rfl,o,k,y,l,by simp only;omega⟩,by simp only;omega⟩ ?_
  rintro _ Q ⟨rfl,j,F,C,D,n⟩
  simp only at j C D n
  have l2:=l1.step j
  obtain⟨bu,bk,bp,a8,ap,K,av,aN⟩:=n.ex
  simp only[rO,p7]at K l2
  simp[d,i,K,l2.get,J,X,V]
  refine ny (by simp) n (by omega) λx h g=> ?_
  simp
  exact⟨rfl,((r.trans j).trans h).out,F+1,by simp only;omega,by simp only;omega,g.out⟩
 | @bin z a A a7 l S=>
  have R:(dC.mk z 0 [] [a,A]).w=1+a.w+A.w:=by rw[dC.kJ];simp[dC.jA,dC.il];omega
  simp[d,i,show¬z=1 by omega,show¬z=2 by omega,show¬z=3 by omega]
  refine gd E (by simp) ⟨W,s,q,v,a,I⟩ ⟨⟨rfl,o,k,y,l,by simp only;omega⟩,by simp only;omega⟩ ?_
  rintro _ Q ⟨rfl,j,F,C,D,n⟩
  simp only at j C D n
  have l2:=l1.step j
  simp only[p7]at l2
  simp[d,i,l2.get,oH]
  refine gd E (by simp) ⟨W,s,F,v,A,_⟩ ⟨⟨rfl,n,k,y,S,by simp only;omega⟩,by simp only;omega⟩ ?_
  rintro _ aA ⟨rfl,G,an,Z,ae,M⟩
  simp only at G Z ae M
  have l3:=l2.step G
  simp[d,i,l3.get,oH]
  refine ny (by simp) M (by omega) λx h g=> ?_
  simp
  exact⟨rfl,(((r.trans j).trans G).trans h).out,an+1,by simp only;omega,by simp only;omega,g.out⟩
abbrev L6:kw:=jM IQ (λa b c=>Du a b c/\a.e.w<10000001) Aa
theorem PC:L6.Ok Tryz.prog cx 198:=tX (λa:IQ=>a.e.w) LD 10000001
theorem GN{g:eG}{n:Nat}{W:dJ}{f:List (List Nat)}{d b:Nat}{a:dC}{k:Int}{i:H}{o:af Oper}{l:aa Tmp}{m:List Oper}{q p:eZ}{j:gU}(ht:g.h 198=some L6)(y:Gn W f d i b)(u:okW W)(s:f.length<=1000000)(v:ME a)(x:d+a.w<=10000000)
 (r:∀c e,Step b i c->d<e->e<=d+a.w->Gn W f e c b->XK (some (.tuple [],c)) cx (p9 Tryz.prog cx g) n o l m q p j):XK (hl Tryz.prog cx g 198 [.ptr b 0 0 0,a.t,.int .i64 k] i) cx (p9 Tryz.prog cx g) n o l m q p j:=
 gd PC ht ⟨W,f,d,b,a,k⟩ ⟨⟨rfl,y,u,s,v,x⟩,by simp only;omega⟩ (by rintro _ c ⟨rfl,C,e,z,A,B⟩;exact r c e C z A B)
structure VG where
 (W:dJ) (L:List (List Nat)) (n g:Nat) (s:du)
def AQ(a:VG)(b:List T)(c:H):Prop:=b=[.ptr a.g 0 0 0,a.s.t]/\Gn a.W a.L a.n c a.g/\okW a.W/\a.L.length<=1000000/\MS a.s/\a.n+a.s.w<=10000000
def wD(a:VG)(f:List T)(d:H)(e:T)(c:H):Prop:=e= .tuple []/\Step a.g d c/\∃b,a.n<=b/\b<=a.n+a.s.w/\Gn a.W a.L b c a.g
theorem HV:(jM VG (λv y a=>AQ v y a/\v.s.op=1) wD).Ok Tryz.prog cx 194:=by
 refine iU (tb:=⟨pt [(110,z7),(231,pW)],ht [(96,jM B2 tv pY),(198,L6)]⟩) dX dU (iN 36893488147419136123 [] Tryz.func194) (λ_ _=>5) (λv y a V=>by obtain⟨⟨rfl,_⟩,_⟩:=V;simp[Tryz.f194]) ?_
 rintro⟨W,H,n,K,j⟩ _ a ⟨⟨rfl,c,e,o,q,T⟩,u⟩ bp C
 simp only at c e o q T u
 simp at C
 obtain⟨b,M⟩:=C
 obtain⟨m,R,S⟩:=e.2.2.2.2.2
 have a6:=c.lt
 have U:(K=a.size)=False:=by simp;omega
 obtain⟨bn,a7,bk,next,O,A,gO,aX⟩:=c.ex
 simp only[rO]at A
 have E:=c.hr.cons ⟨11,0,0,true,false,[j.t]⟩
 have l1:=Lb.new c.hr.lt c.hr.fp ⟨11,0,0,true,false,[j.t]⟩
 have x:=Step.cons c.ok.hr c.hr.lt ⟨11,0,0,true,false,[j.t]⟩
 have J:=λ{tb:eG} (a:tb.p 110=some z7) l=>LB a H l (by omega)
 have z:=λ{tb:eG} (a:tb.p 231=some pW) l=>JT a W l e.1
 have Y:=j.kJ
 have D:=q.ex (.inl u)
 simp[Tryz.f194,b,M,A,U]
 cases g:j.index with
 |cons l r=>
  have X:=q.arr u (by rw[g];simp)
  have Z:=q.ind l (by rw[g];simp)
  rw[g,dC.jA]at Y
  simp[b,g]
  refine GN (by simp) E e o Z (by omega) λN w f ap av h=> ?_
  have l2:=l1.step f
  simp only[p7]at l2
  simp[b,l2.get,oH]
  refine GN (by simp) h e o D (by omega) λaN ae G a8 bi F=> ?_
  have l3:=l2.step G
  obtain⟨aE,an,aA,al,I,d,L,P⟩:=F.ex
  simp only[rO]at d
  simp[b,l3.get,d,z,X,S,R,oH]
  refine ny (by simp) F (by omega) λB k i=> ?_
  simp
  exact⟨rfl,(((x.trans f).trans G).trans k).out,ae+1,by simp only;omega,by simp only;omega,i.out⟩
 |nil=>
  simp[b,g]
  refine GN (by simp) E e o D (by omega) λN w f ap av h=> ?_
  have l2:=l1.step f
  simp only[p7]at l2
  obtain⟨aE,an,aA,al,I,d,L,P⟩:=h.ex
  simp only[rO]at d
  simp[b,l2.get,d,J]
  refine dM (λQ=> ?_) (λQ=> ?_)
  ·simp[b]
   refine ny (by simp) h (by omega) λB k i=> ?_
   simp
   exact⟨rfl,((x.trans f).trans k).out,w+1,by simp only;omega,by simp only;omega,i.out⟩
  ·simp[b,l2.get,d,z]
   refine ny (by simp) h (by omega) λB k i=> ?_
   simp
   exact⟨rfl,((x.trans f).trans k).out,w+1,by simp only;omega,by simp only;omega,i.out⟩
def Dt:kw:=⟨λd a=>∃W c f b h,d=[.ptr b 0 0 0,.str h]/\Gn W c f a b/\okW W,λ_ a g e=>e=a/\CZ g⟩
theorem M9:Dt.Ok Tryz.prog cx 197:=by
 refine Hh (tb:=⟨pt [],ht []⟩) dX dU (iN 67117107 [] Tryz.func197) false (λ_ _=>1000005) (λt f q=>by obtain⟨W,l,r,i,k,rfl,_⟩:=q;simp[Tryz.f197]) ?_
 rintro _ f ⟨W,l,r,i,k,rfl,e,m⟩ b j
 simp at j
 obtain⟨a,c⟩:=j
 obtain⟨y,w,x,next,s,g,gO,u⟩:=e.ex
 simp only[rO]at g
 have hl:=m.2.2.1
 simp[Tryz.f197]
 refine eQ W.fP.length (by omega) (λe b h=>h=hr f/\TI.dt b 0=some (.ptr i 0 0 0)/\TI.dt b 1=some (.str k)/\TI.dt b 5=some (.int .i64 e)) ?_ ?_ (by omega) (by simp[a,c])
 ·rintro v b h p n ⟨rfl,a,c,d⟩
  simp[a,c,d,g,p]
  refine dM (λo=> ?_) (λo=> ?_)
  ·simp[d]
   exact o7 f _ _ e.ok.hp (Fr.refl _ _) rfl ⟨rfl,by simp⟩
  ·simp[a,c,d,n]
 ·rintro b h ⟨rfl,a,c,d⟩
  simp[a,d,g]
  exact o7 f _ _ e.ok.hp (Fr.refl _ _) rfl ⟨rfl,by simp⟩
theorem Gn.Yt{W:dJ}{r:List (List Nat)}{a:Nat}{j:H}{h:Nat}(u:Gn W r a j h)(x:0<a):∃p o next,∃b:List fa,∃c g q k f,j.get h=some ⟨10,0,p,true,false,[.agg (rO W r (.arr c g 0 a false) o next)]⟩/\j.get c=some ⟨6,g,q,k,false,f⟩/\c≠h/\Fp j h c/\f.take a=b.map fa.t/\b.length=a/\∀e,e<a->∃w:fa,f[e]? =some w.t:=by
 obtain⟨p,y,o,next,b,i,gO,n⟩:=u.ex
 rcases gO with⟨_,d⟩|⟨c,g,q,k,f,rfl,d,m⟩
 ·simp at d;subst d;simp at n;omega
 rw[aH,n]at i m
 refine⟨p,o,next,b,c,g,q,k,f,i,d,λv=>by subst v;rw[i]at d;simp at d,.inr ⟨_,i,.arr c g 0 a false,by simp[d6,T.cells,rO],rfl⟩,m,n,λe s=>⟨b[e],?_⟩⟩
 have:(f.take a)[e]? =(b.map fa.t)[e]? :=by rw[m]
 rw[bK,aq s,aT,aB (l:=b) (by omega)]at this
 exact this
def Px(W:dJ)(e:List (List Nat))(d b g:Nat)(f c:H):Prop:=Step b f c/\∃a,d<=a/\a<=d+g/\Gn W e a c b
structure aav where
 (W:dJ) (L:List (List Nat)) (n g:Nat) (l:List du)
def TQ(a:aav)(b:List T)(c:H):Prop:=b=[.ptr a.g 0 0 0,sl (a.l.map du.t)]/\Gn a.W a.L a.n c a.g/\okW a.W/\a.L.length<=1000000/\(∀d∈a.l,MS d)/\a.n+du.ws a.l<=10000000
abbrev Ca(e:Nat):kw:=jM aav (λa c b=>TQ a c b/\du.ws a.l<e) (λa _ b f d=>f= .tuple []/\Px a.W a.L a.n a.g (du.ws a.l) b d)
abbrev rSt(d:Nat):kw:=jM VG (λa b c=>AQ a b c/\a.s.w<d) wD
theorem JR{j:Nat}(z:(Ca j).Ok Tryz.prog cx 95){g:eG}{n:Nat}{W:dJ}{f:List (List Nat)}{d b:Nat}{a:List du}{i:H}{o:af Oper}{l:aa Tmp}{m:List Oper}{q p:eZ}{k:gU}(ht:g.h 95=some (Ca j))(y:Gn W f d i b)(u:okW W)(s:f.length<=1000000)(x:∀D∈a,MS D)(w:d+du.ws a<=10000000)(v:du.ws a<j)
 (r:∀c e,Step b i c->d<=e->e<=d+du.ws a->Gn W f e c b->XK (some (.tuple [],c)) cx (p9 Tryz.prog cx g) n o l m q p k):XK (hl Tryz.prog cx g 95 [.ptr b 0 0 0,sl (a.map du.t)] i) cx (p9 Tryz.prog cx g) n o l m q p k:=
 gd z ht ⟨W,f,d,b,a⟩ ⟨⟨rfl,y,u,s,x,w⟩,v⟩ (by rintro _ c ⟨rfl,a,e,A,B,C⟩;exact r c e a A B C)
theorem zm(Y:Nat)(aE:(Ca Y).Ok Tryz.prog cx 95):(jM VG (λi a N=>(AQ i a N/\i.s.w<Y+1)/\(i.s.op=2\/i.s.op=3)) wD).Ok Tryz.prog cx 195:=by
 refine iU (tb:=⟨pt [],ht [(96,jM B2 tv pY),(198,L6),(95,Ca Y)]⟩) dX dU (iN 590296373308659073275 [] Tryz.func195) (λ_ _=>5) (λi a N b9=>by obtain⟨⟨⟨rfl,_⟩,_⟩,_⟩:=b9;simp[Tryz.f195]) ?_
 rintro⟨W,M,n,o,T⟩ _ N ⟨⟨⟨rfl,l,R,P,Q,b7⟩,bX⟩,aA⟩ eL av
 simp only at l R P Q b7 aA bX
 simp at av
 obtain⟨g,bu⟩:=av
 have ef:=l.lt
 have b8:(o=N.size)=False:=by simp;omega
 obtain⟨eE,et,c4,next,O,al,gO,eb⟩:=l.ex
 simp only[rO]at al
 have ca:=l.hr.cons ⟨11,0,0,true,false,[T.t]⟩
 have l1:=Lb.new l.hr.lt l.hr.fp ⟨11,0,0,true,false,[T.t]⟩
 have c6:=Step.cons l.ok.hr l.hr.lt ⟨11,0,0,true,false,[T.t]⟩
 have eh:=T.kJ
 have b6:=Q.ex (by rcases aA with q|q<;>simp[q])
 simp[Tryz.f195,g,bu,al,b8,gO.len (cx:=cx)]
 refine GN (by simp) ca R P b6 (by omega) λdm j a7 p1 p2 aN=> ?_
 have l2:=l1.step a7
 simp only[p7]at l2
 obtain⟨eF,eu,eB,eo,de,an,bn,bz⟩:=aN.ex
 simp only[rO]at an
 simp[g,an,bn.len (cx:=cx),bz]
 refine ny (by simp) aN (by omega) λdn a8 cb=> ?_
 have l3:=l2.step a8
 simp[g,l3.get]
 refine JR aE (by simp) cb R P Q.bd (by omega) (by omega) λbv e bi p3 p4 aX=> ?_
 have l4:=l3.step bi
 obtain⟨eH,ey,eC,cX,di,V,bp,bB⟩:=aX.ex
 obtain⟨Z,A⟩:=aX.FI V bp bB c4 cX
 simp only[rO]at V Z A
 have l5:=l4.step Z
 have ae:=(((c6.trans a7).trans a8).trans bi).trans Z
 simp[g,V,dG]
 generalize dI bv o _=ds at*
 simp[l5.get]
 refine dM (λX=> ?_) (λX=> ?_)
 ·simp[g]
  refine ny (by simp) A (by omega) λE U G=> ?_
  obtain⟨J,I,H,B,z,C,K,D,L,d,f,r,p,v,F,u⟩:=G.Yt (by omega)
  obtain⟨x,k⟩:=u j (by omega)
  have h:j<e+1:=by omega
  obtain⟨m,y⟩:=G.elem (i:=j) (x:=⟨x.op,x.a,((e+1:Nat):Int),x.c,x.n,x.iF⟩) f p r ⟨J,_,I,H,B,d,rfl,v,F,h⟩
  simp only[rO]at d
  simp[g,d,f,k,h]
  exact⟨rfl,((ae.trans U).trans (by simpa using m)).out,e+1,by simp only;omega,by simp only;omega,(by simpa using y:Gn W M (e+1) _ o).out⟩
 simp[l5.get]
 refine dM (λX=> ?_) (λX=> ?_)
 ·simp[g]
  obtain⟨J,I,H,B,z,C,K,D,L,d,f,r,p,v,F,u⟩:=A.Yt (by omega)
  obtain⟨x,k⟩:=u j (by omega)
  have h:j<e:=by omega
  obtain⟨m,y⟩:=A.elem (i:=j) (x:=⟨x.op,x.a,(e:Int),x.c,x.n,x.iF⟩) f p r ⟨J,_,I,H,B,d,rfl,v,F,h⟩
  simp only[rO]at d
  simp[g,d,f,k,h]
  exact⟨rfl,(ae.trans (by simpa using m)).out,e,by simp only;omega,by simp only;omega,(by simpa using y:Gn W M e _ o).out⟩
 obtain⟨eI,eA,eD,er,dk,ap,bs,bN⟩:=A.ex
 simp only[rO]at ap
 simp[g,ap,bs.len (cx:=cx),bN]
 refine ny (by simp) A (by omega) λE U G=> ?_
 have l6:=l5.step U
 obtain⟨J,I,H,B,z,C,K,D,L,d,f,r,p,v,F,u⟩:=G.Yt (by omega)
 obtain⟨x,k⟩:=u j (by omega)
 have h:j<e+1:=by omega
 obtain⟨m,y⟩:=G.elem (i:=j) (x:=⟨x.op,x.a,((e+1:Nat):Int),x.c,x.n,x.iF⟩) f p r ⟨J,_,I,H,B,d,rfl,v,F,h⟩
 simp only[rO]at d
 simp[g,d,f,k,h]
 replace m:Step o E (dI E z ⟨6,C,K+1,D,false,L.set j (fa.t ⟨x.op,x.a,(e:Int)+1,x.c,x.n,x.iF⟩)⟩):=by simpa using m
 replace y:Gn W M (e+1) (dI E z ⟨6,C,K+1,D,false,L.set j (fa.t ⟨x.op,x.a,(e:Int)+1,x.c,x.n,x.iF⟩)⟩) o:=by simpa using y
 have cp:=l6.step m
 generalize dI E z _=dv at*
 clear d f k
 simp[cp.get]
 refine JR aE (by simp) y R P Q.el (by omega) (by omega) λea S c7 p5 p6 a6=> ?_
 have EZ:=((ae.trans U).trans m).trans c7
 obtain⟨dd,c1,cL,bk,z,C,K,D,L,d,f,r,p,v,bT,u⟩:=a6.Yt (by omega)
 obtain⟨x,k⟩:=u e (by omega)
 have h:e<S:=by omega
 obtain⟨c9,ce⟩:=a6.elem (i:=e) (x:=⟨x.op,(S:Int),x.b,x.c,x.n,x.iF⟩) f p r ⟨dd,_,c1,cL,bk,d,rfl,v,bT,h⟩
 simp only[rO]at d
 simp[g,d,f,k,h]
 exact⟨rfl,(EZ.trans (by simpa using c9)).out,S,by simp only;omega,by simp only;omega,(by simpa using ce:Gn W M S _ o).out⟩
structure IAr where
 (W:dJ) (L:List (List Nat)) (n g:Nat) (s:du) (a b o:Int)
theorem sY(j:Nat)(N:(Ca j).Ok Tryz.prog cx 95):(jM IAr (λc A e=>A=[.ptr c.g 0 0 0,c.s.t,.int .i64 c.a,.int .i64 c.b,.int .i64 c.o]/\AQ ⟨c.W,c.L,c.n,c.g,c.s⟩ [.ptr c.g 0 0 0,c.s.t] e/\c.s.w<j+1) (λc _ e U D=>wD ⟨c.W,c.L,c.n,c.g,c.s⟩ [] e U D)).Ok Tryz.prog cx 196:=by
 refine iU (tb:=⟨pt [],ht [(96,jM B2 tv pY),(95,Ca j)]⟩) dX dU (iN 1119 [] Tryz.func196) (λ_ _=>5) (λc z e M=>by obtain⟨rfl,_⟩:=M;simp[Tryz.f196]) ?_
 rintro⟨W,L,n,B,f,z,b,o⟩ _ e ⟨rfl,⟨_,d,q,m,p,J⟩,I⟩ bi r
 simp only at d q m p J I
 simp at r
 obtain⟨i,E,F,G,l⟩:=r
 have aA:=d.lt
 have K:(B=e.size)=False:=by simp;omega
 obtain⟨a7,aN,V,next,O,k,gO,av⟩:=d.ex
 simp only[rO]at k
 have P:=d.hr.cons ⟨11,0,0,true,false,[f.t]⟩
 have l1:=Lb.new d.hr.lt d.hr.fp ⟨11,0,0,true,false,[f.t]⟩
 have X:=Step.cons d.ok.hr d.hr.lt ⟨11,0,0,true,false,[f.t]⟩
 have aE:=f.kJ
 simp[Tryz.f196,i,E,F,l,k,K]
 refine ny (by simp) P (by omega) λal x Q=> ?_
 have l3:=l1.step x
 simp only[p7]at l3
 simp[i,l3.get]
 refine JR N (by simp) Q q m p.bd (by omega) (by omega) λan S Y p3 p4 u=> ?_
 obtain⟨a8,aX,a6,T,ae,h,C,H⟩:=u.ex
 obtain⟨y,v⟩:=u.FI h C H V T
 simp only[rO]at h y v
 simp[i,G,l,h,dG]
 refine ny (by simp) v (by omega) λap Z R=> ?_
 simp
 exact⟨rfl,((((X.trans x).trans Y).trans y).trans Z).out,S+1,by simp only;omega,by simp only;omega,R.out⟩
theorem LM(m:Nat)(E:(rSt m).Ok Tryz.prog cx 148):(Ca m).Ok Tryz.prog cx 95:=by
 refine iU (tb:=⟨pt [],ht [(148,rSt m)]⟩) dX dU (iN 275 [] Tryz.func95) (λ_ _=>10000005) (λc G r D=>by obtain⟨⟨rfl,_⟩,_⟩:=D;simp[Tryz.f95]) ?_
 rintro⟨W,q,n,f,l⟩ _ r ⟨⟨rfl,j,v,s,u,C⟩,B⟩ d w
 simp only at j v s u C B
 simp at w
 obtain⟨e,b⟩:=w
 have hl:=du.tM (l:=l)
 simp[Tryz.f95]
 refine eQ l.length (by omega) (λc d g=>Step f (hr r) g/\(∃a,n<=a/\a<=n+du.ws (l.take c)/\Gn W q a g f)/\TI.dt d 0=some (.ptr f 0 0 0)/\TI.dt d 1=some (sl (l.map du.t))/\TI.dt d 4=some (.int .i64 c)) ?_ ?_ (by omega) (by simp[e,b,Step.refl j.ok.hr];exact⟨n,au _,by omega,j.hr⟩)
 ·rintro c d g i A ⟨p,⟨a,y,o,k⟩,e,b,h⟩
  have K:=du.Dh l i
  have J:=du.wm l (c+1)
  have I:=du.uk (aF i)
  simp[e,b,h,i]
  refine gd E (by simp) ⟨W,q,a,f,l[c]⟩ ⟨⟨rfl,k,v,s,u _ (aF i),by simp only;omega⟩,by simp only;omega⟩ ?_
  rintro _ H ⟨rfl,z,F,p1,p2,x⟩
  simp only at z p1 p2 x
  simp[e,b,h,A]
  exact⟨p.trans z,F,by omega,by omega,x⟩
 ·rintro d g ⟨p,⟨a,y,o,k⟩,e,b,h⟩
  rw[aQ]at o
  simp[b,h]
  exact⟨p.out,a,y,o,k.out⟩
theorem Pn(A:Nat)(K:(Ca A).Ok Tryz.prog cx 95):(rSt (A+1)).Ok Tryz.prog cx 148:=by
 obtain⟨F,a6⟩:=hlI M9 (λ_ _ _ _ G=>G)
 refine iU (tb:=⟨pt [(110,z7),(146,pT)],ht [(96,jM B2 tv pY),(198,L6),(194,jM VG (λe M i=>AQ e M i/\e.s.op=1) wD),(195,jM VG (λe M i=>(AQ e M i/\e.s.w<A+1)/\(e.s.op=2\/e.s.op=3)) wD),
  (196,jM IAr (λe ap i=>ap=[.ptr e.g 0 0 0,e.s.t,.int .i64 e.a,.int .i64 e.b,.int .i64 e.o]/\AQ ⟨e.W,e.L,e.n,e.g,e.s⟩ [.ptr e.g 0 0 0,e.s.t] i/\e.s.w<A+1) (λe _ i r j=>wD ⟨e.W,e.L,e.n,e.g,e.s⟩ [] i r j)),(197,Dt)]⟩) dX dU (iN 365376106316094180278949616271352870286206697499 [(11,[(1,9)]),(13,[(1,9)]),(15,[(1,9)]),(34,[(7,12),(7,14)])] Tryz.func148) (λ_ _=>5) (λe M i bi=>by obtain⟨⟨rfl,_⟩,_⟩:=bi;simp[Tryz.f148]) ?_
 rintro⟨W,B,k,y,l⟩ _ i ⟨⟨rfl,G,x,D,E,I⟩,J⟩ eb Y
 simp only at G x D E I J
 simp at Y
 obtain⟨C,aX⟩:=Y
 have cb:=G.lt
 have ce:(y=i.size)=False:=by simp;omega
 obtain⟨dm,c1,dd,next,O,aA,gO,b8⟩:=G.ex
 have ae:=G.hr.cons ⟨11,0,0,true,false,[l.t]⟩
 have l1:=Lb.new G.hr.lt G.hr.fp ⟨11,0,0,true,false,[l.t]⟩
 have bs:=Step.cons G.ok.hr G.hr.lt ⟨11,0,0,true,false,[l.t]⟩
 have cp:=l.kJ
 obtain⟨dn,c4,de,an,bv,Q,aE,a7⟩:=ae.ex
 obtain⟨T,S⟩:=ae.FI Q aE a7 an an
 obtain⟨ds,c6,bp,bn,bz,R,aN,a8⟩:=S.ex
 obtain⟨U,f⟩:=S.FI R aN a8 bp (IntKind.i64.wrap (bn+1))
 have l3:=(l1.step T).step U
 simp only[rO,p7]at aA Q T S R U f l3
 simp[Tryz.f148,C,aX,Q,dG,R,oH]
 have m:=(bs.trans T).trans U
 have N:=λ{tb:eG} (ht:tb.h 197=some Dt) H=>a6 ht [.ptr y 0 0 0,.str H] _ ⟨W,B,k,y,H,rfl,f,x⟩
 generalize dI (dI _ y _) y _=b6 at*
 obtain⟨dv,c7,di,cL,bB,z,bT,b9⟩:=f.ex
 simp only[rO]at z
 have av:=λ{tb:eG} (i:tb.p 110=some z7) H=>LB i B H (by omega)
 have eT:=λ{tb:eG} (i:tb.p 110=some z7) H=>LB i W.dp H (by have:=x.2.2.2.2.1;omega)
 have V:=λ{tb:eG} (i:tb.p 110=some z7) H=>LB i W.dR H (by have:=x.2.2.2.1;omega)
 have P:=λ{tb:eG} (i:tb.p 146=some pT) H=>JS i W.dP H x.2.1
 simp[z,l3.get]
 repeat' (refine dM (λZ=> ?_) (λZ=> ?_)<;>simp[Z,C,l3.get])
 ·try simp[C,l3.get]
  refine gd HV (by simp) ⟨W,B,k,y,l⟩ ⟨⟨rfl,f,x,D,E,I⟩,by simpa using‹decide (l.op=1)=true›⟩ ?_
  rintro _ j ⟨rfl,c,q,u,v,d⟩
  simp
  exact⟨rfl,(m.trans c).out,q,u,v,d.out⟩
 ·try simp[C,l3.get]
  refine gd (zm A K) (by simp) ⟨W,B,k,y,l⟩ ⟨⟨⟨rfl,f,x,D,E,I⟩,J⟩,.inl (by simpa using‹decide (l.op=2)=true›)⟩ ?_
  rintro _ j ⟨rfl,c,q,u,v,d⟩
  simp
  exact⟨rfl,(m.trans c).out,q,u,v,d.out⟩
 ·try simp[C,l3.get]
  refine gd (zm A K) (by simp) ⟨W,B,k,y,l⟩ ⟨⟨⟨rfl,f,x,D,E,I⟩,J⟩,.inr (by simpa using‹decide (l.op=3)=true›)⟩ ?_
  rintro _ j ⟨rfl,c,q,u,v,d⟩
  simp
  exact⟨rfl,(m.trans c).out,q,u,v,d.out⟩
 ·simp[l3.get,z,P]
  refine kA (sY A K) (by simp) ⟨W,B,k,y,l,11,12,_⟩ ⟨rfl,⟨rfl,f,x,D,E,I⟩,J⟩ ?_
  rintro _ j ⟨rfl,c,q,u,v,d⟩
  simp
  exact⟨rfl,(m.trans c).out,q,u,v,d.out⟩
 ·simp[l3.get,z,P]
  refine kA (sY A K) (by simp) ⟨W,B,k,y,l,13,14,_⟩ ⟨rfl,⟨rfl,f,x,D,E,I⟩,J⟩ ?_
  rintro _ j ⟨rfl,c,q,u,v,d⟩
  simp
  exact⟨rfl,(m.trans c).out,q,u,v,d.out⟩
 ·simp[l3.get,z,P]
  refine kA (sY A K) (by simp) ⟨W,B,k,y,l,15,16,_⟩ ⟨rfl,⟨rfl,f,x,D,E,I⟩,J⟩ ?_
  rintro _ j ⟨rfl,c,q,u,v,d⟩
  simp
  exact⟨rfl,(m.trans c).out,q,u,v,d.out⟩
 ·try simp[C,l3.get,z]
  refine gd (sY A K) (by simp) ⟨W,B,k,y,l,17,18,_⟩ ⟨rfl,⟨rfl,f,x,D,E,I⟩,J⟩ ?_
  rintro _ j ⟨rfl,c,q,u,v,d⟩
  simp
  exact⟨rfl,(m.trans c).out,q,u,v,d.out⟩
 ·try simp[C,l3.get,z]
  refine gd (sY A K) (by simp) ⟨W,B,k,y,l,19,20,_⟩ ⟨rfl,⟨rfl,f,x,D,E,I⟩,J⟩ ?_
  rintro _ j ⟨rfl,c,q,u,v,d⟩
  simp
  exact⟨rfl,(m.trans c).out,q,u,v,d.out⟩
 ·simp[N]
  refine ny (by simp) f (by omega) λj c d=> ?_
  simp
  exact⟨rfl,(m.trans c).out,k+1,by simp only;omega,by simp only;omega,d.out⟩
 ·simp[N]
  refine ny (by simp) f (by omega) λj c d=> ?_
  simp
  exact⟨rfl,(m.trans c).out,k+1,by simp only;omega,by simp only;omega,d.out⟩
 ·simp[N]
  refine ny (by simp) f (by omega) λj c d=> ?_
  simp
  exact⟨rfl,(m.trans c).out,k+1,by simp only;omega,by simp only;omega,d.out⟩
 ·simp[l3.get,z,eT]
  refine ny (by simp) f (by omega) λj c d=> ?_
  simp
  exact⟨rfl,(m.trans c).out,k+1,by simp only;omega,by simp only;omega,d.out⟩
 ·simp[l3.get,z,eT]
  refine ny (by simp) f (by omega) λj c d=> ?_
  simp
  exact⟨rfl,(m.trans c).out,k+1,by simp only;omega,by simp only;omega,d.out⟩
 ·try simp[C,l3.get,z]
  refine GN (by simp) f x D (E.ex (.inr (.inr (.inr (by simpa using‹decide (l.op=14)=true›))))) (by omega) λb7 bk c p1 p2 al=> ?_
  obtain⟨ea,c9,dk,cX,bN,X,bX,ca⟩:=al.ex
  simp only[rO]at X
  simp[C,(l3.step c).get,X,V]
  refine ny (by simp) al (by omega) λj bu d=> ?_
  simp
  exact⟨rfl,((m.trans c).trans bu).out,bk+1,by simp only;omega,by simp only;omega,d.out⟩
 ·simp[C,l3.get,z,av,V]
  refine aaa (by simp) f (by omega) λj c d=> ?_
  simp
  exact⟨rfl,(m.trans c).out,k+1,by simp only;omega,by simp only;omega,d.out⟩
 ·exact⟨rfl,m.out,k,au _,by simp only;omega,f.out⟩
theorem KB(a:Nat):(Ca a).Ok Tryz.prog cx 95:=by
 induction a with
 |zero=>intro d e ⟨f,_,b⟩;exact absurd b (Nat.not_lt_zero _)
 |succ a c=>exact LM (a+1) (Pn a c)
end
end Go.Proofs.YtmaeadedikngoaaGreatDoor
