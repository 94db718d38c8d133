/- W06m -/
import Derived.Test.YtalknpnbaceflaaGreatDoorA19
set_option linter.all false
set_option maxRecDepth 100000
set_option maxHeartbeats 0
namespace Go.Proofs.YtalknpnbaceflaaGreatDoor
noncomputable section
open Go Go.TI Tryz
attribute [-simp] List.map_take List.map_drop List.map_append ij gG fK Bool.not_or Bool.not_and
attribute [simp] ig gJ
def vC:iK:=⟨fy×List Nat,λa=>[a.1.t,.str a.2],λa=>a.1.cells.length<=1000000,λa=> C (uZ (a.1.cells.map iY.name) a.2 0),λa c b=>by
 simp at b;rw[fy.inj b.1,b.2]⟩
def T9:vC.Ok prog cx 235:=by
 refine iF [] (jF 1049655 [] func235) (λo=>o.1.cells.length+1) (by simp[vC]) ?_;rintro⟨k,l⟩ hl b m;simp[vC]at hl m|-;obtain⟨p,c⟩:=m;simp[f235,p];refine ik k.cells.length B (λi b g=>iQ 1 g/\g.get 0=some (X 6 0 [k.t])/\Y b 1 (.str l)/\Y b 2 (.fc 0 0 0 0)/\Y b 5 (C i)/\uZ ((k.cells.drop i).map iY.name) l i=uZ (k.cells.map iY.name) l 0) ?_ ?_ B (by simp[c])
 ·rintro i b g n q ⟨j,f,c,h,d,a⟩;rw[aJ n,aO,uZ]at a;simp[f,c,h,d,n];refine fN (λe=>?_) (λe=>?_)
  ·simp at e;rw[au e]at a;simp[d,<-a,j.hp]
  ·simp at e;rw[Z e]at a;simp[f,c,h,d,q,a,j]
 ·rintro b g ⟨j,f,c,h,d,a⟩;simp[uZ]at a;simp[f,h,d,<-a,j.hp]
def PS{c:io}(ht:c.p 235=some vC)(a:fy)(b:List Nat)(hl:a.cells.length<=1000000):rl prog cx c 235 [a.t,.str b]=some (C (uZ (a.cells.map iY.name) b 0)):=iN ht T9 (a,b) hl
def vw:iK:=⟨List jq×List Nat,λa=>[sl (a.1.map jq.t),.str a.2],λa=>a.1.length<=1000000,λa=> C (uZ (a.1.map jq.name) a.2 0),λa c b=>by
 simp at b;rw[jV (λ_ _=>jq.inj) b.1,b.2]⟩
def TP:vw.Ok prog cx 157:=by
 refine iF [] (jF 262707 [] func157) (λm=>m.1.length+1) (by simp[vw]) ?_;rintro⟨h,j⟩ hl c k;simp[vw]at hl k|-;obtain⟨b,d⟩:=k;simp[f157];refine ik h.length B (λg c i=>i=hE/\Y c 0 (sl (h.map jq.t))/\Y c 1 (.str j)/\Y c 5 (C g)/\uZ ((h.drop g).map jq.name) j g=uZ (h.map jq.name) j 0) ?_ ?_ B (by simp[b,d])
 ·rintro g c i l n ⟨rfl,b,d,e,a⟩;rw[aJ l,aO,uZ]at a;simp[b,d,e,l];refine fN (λf=>?_) (λf=>?_)
  ·simp at f;rw[au f]at a;simp[e,<-a]
  ·simp at f;rw[Z f]at a;simp[b,d,e,n,a]
 ·rintro c i ⟨rfl,b,d,e,a⟩;simp[uZ]at a;simp[b,e,<-a]
def PP{c:io}(ht:c.p 157=some vw)(a:List jq)(b:List Nat)(hl:a.length<=1000000):rl prog cx c 157 [sl (a.map jq.t),.str b]=some (C (uZ (a.map jq.name) b 0)):=iN ht TP (a,b) hl
def wj(W:fy)(a:List (List Nat))(b:T)(c next:Int):List T:=
 [sl (W.cells.map iY.t),sl (W.fI.map jq.t),sl (W.iL.map jG.t),sl (W.fH.map T.str),sl (W.ee.map T.str),sl (W.jy.map js.t),sl (a.map T.str),b,C c,C next]
structure Gn(W:fy)(L:List (List Nat))(n:Nat)(h:H)(g:Nat):Prop where
 ok:iQ 0 h
 fp:∀b,Fp h g b->b<h.size
 ex:∃ver ov jY next,∃O:List iE,h.get g=some (X 10 ver [.eZ (wj W L ov jY next)])/\Gr h ov 6 (O.map iE.t)/\O.length=n
def Gn.lt{W:fy}{c:List (List Nat)}{e:Nat}{b:H}{a:Nat}(d:Gn W c e b a):a<b.size:=d.fp a (.inl rfl)
def Gn.same{W:fy}{f:List (List Nat)}{k:Nat}{c d:H}{b:Nat}(j:Gn W f k c b)(q:iQ 0 d)(h:∀a,Fp c b a->d.get a=c.get a)(p:c.size<=d.size):Gn W f k d b:=by
 obtain⟨s,l,r,next,m,g,n,o⟩:=j.ex;have i:=h b (.inl rfl);exact⟨q,λa e=>by rw[jJ i]at e;exact bK (j.fp a e) p,s,l,r,next,m,by rw[i];exact g,n.mono λa e=>h a (.inr ⟨_,g,l,by simp[iq,T.cells,wj],e⟩),o⟩
theorem Gn.cons{W:fy}{b:List (List Nat)}{e:Nat}{d:H}{c:Nat}(a:Gn W b e d c)(f:jK):Gn W b e (d.cons f) c:=
 a.same (a.ok.cons f) (λg h=>by rw[fk,Z (by have:=a.fp g h;omega)]) G 
def Gn.hr{W:fy}{b:List (List Nat)}{e:Nat}{a:H}{c:Nat}(d:Gn W b e a c):Gn W b e (TI.hr a) c:=d.same d.ok.hr (λf _=>iU a f) (ax _)
def Gn.out{W:fy}{b:List (List Nat)}{e:Nat}{h a:H}{c:Nat}(d:Gn W b e a c):Gn W b e (mX h a) c:=d.same (d.ok.out h) (λf _=>iB h a f) (ax _)
def Gn.K4{W:fy}{a:List (List Nat)}{h b f:Nat}{c:H}{d:T}{q next:Int}{g:List iE}(k:Gn W a h c b)(l:c.get b=some (X 10 f [.eZ (wj W a d q next)]))(gO:Gr c d 6 (g.map iE.t))(m:g.length=h)(e next':Int):
 Step b c (fJ c b (X 10 (f+1) [.eZ (wj W a d e next')]))/\Gn W a h (fJ c b (X 10 (f+1) [.eZ (wj W a d e next')])) b:=by
 obtain⟨i,n,o,p⟩:=Eq k.ok k.fp l (cells':=wj W a d e next') (λr j=>by
  simp[wj]at j|-;rcases j with rfl|rfl|rfl|rfl|rfl|rfl|rfl|rfl|rfl|rfl<;>simp) _ rfl
 exact⟨i,⟨i.ok.hp,i.ok.low,ay _⟩,n,f+1,d,e,next',g,o,p _ _ _ gO dT,m⟩
def Gn.app{W:fy}{b:List (List Nat)}{n a f:Nat}{c d:H}{h j:T}{e next:Int}{g:List iE}{x:iE}(o:Gn W b n c a)(k:c.get a=some (X 10 f [.eZ (wj W b h e next)]))(gO:Gr c h 6 (g.map iE.t))(r:g.length=n)(s:Ei c h 6 (g.map iE.t++[x.t]) j d):
 d.get a=some (X 10 f [.eZ (wj W b h e next)])/\gU c d a=true/\Step a c (fJ d a (X 10 (f+1) [.eZ (wj W b j e next)]))/\Gn W b (n+1) (fJ d a (X 10 (f+1) [.eZ (wj W b j e next)])) a:=by
 obtain⟨l,u⟩:=zu (i:=7) o.ok o.fp k rfl dT gO s.xt;obtain⟨m,p,q,v⟩:=u _ rfl;exact⟨l.trans k,il l,m,⟨m.ok.hp,m.ok.low,ay _⟩,p,f+1,j,e,next,g++[x],by rw[eG (l.trans k),au rfl],by rw[List.map_append];exact q,by simp[r]⟩
def Gn.elem{W:fy}{k:List (List Nat)}{g c b d h:Nat}{f:Bool}{a:H}{e:List T}{i:Nat}{x:iE}(u:Gn W k g a c)(m:a.get b=some ⟨6,d,h,f,false,e⟩)(A:Fp a c b)(r:b≠c)
 (D:∃q n o next,∃j:List iE,a.get c=some (X 10 q [.eZ (wj W k n o next)])/\n= .arr b d 0 g false/\e.take g=j.map iE.t/\j.length=g/\i<g):
 Step c a (fJ a b ⟨6,d,h+1,f,false,e.set i x.t⟩)/\Gn W k g (fJ a b ⟨6,d,h+1,f,false,e.set i x.t⟩) c:=by
 obtain⟨q,n,o,next,j,y,rfl,z,l,E⟩:=D;have p:=Step.aee u.ok m A r ⟨6,d,h+1,f,false,e.set i x.t⟩;have s:(fJ a b ⟨6,d,h+1,f,false,e.set i x.t⟩).get c=a.get c:=by rw[eG m,Z (bE r)]
 refine⟨p,⟨p.ok.hp,p.ok.low,ay _⟩,λw v=>by rw[jJ s]at v;rw[iy];exact u.fp w v,q,_,o,next,j.set i x,by rw[s];exact y,.inr ⟨b,d,h+1,f,e.set i x.t,by simp[l],by rw[eG m,au rfl],?_⟩,by simp[l]⟩;rw[aI,dg,l,List.take_set,z,aW]
structure GZ where
 (W:fy) (L:List (List Nat)) (n g:Nat) (i:iE)
def xn(a:GZ)(b:List T)(c:H):Prop:=b=[.fc a.g 0 0 0,a.i.t]/\Gn a.W a.L a.n c a.g/\a.n<=100000000
def ul(a:GZ)(e:List T)(c:H)(d:T)(b:H):Prop:=d= .tuple []/\Step a.g c b/\Gn a.W a.L (a.n+1) b a.g
def OR:(km GZ xn ul).Ok prog cx 114:=by
 refine kh (tb:=⟨pt [],ht []⟩) jv jl (jF 11 [] func114) (λ_ _=>5) (λd P h K=>by obtain⟨rfl,_⟩:=K;simp[f114]) ?_;rintro⟨W,v,S,j,d⟩ _ h ⟨rfl,f,I⟩ ab p;simp only at f I;simp at p;obtain⟨D,E⟩:=p;have R:=f.lt;have J:(j=h.size)=False:=dR;obtain⟨O,l,e,next,y,g,gO,F⟩:=f.ex;have k:=(f.hr.cons (X 6 1 [iE.t ⟨d.op,d.a,d.b,d.c,d.n,e⟩]));have q:=k.cons (X 6 0 [iE.t ⟨d.op,d.a,d.b,d.c,d.n,e⟩]);have N:=(Step.cons (w:=j) f.ok.hr f.lt (X 6 1 [iE.t ⟨d.op,d.a,d.b,d.c,d.n,e⟩])).trans (Step.cons k.ok k.lt (X 6 0 [iE.t ⟨d.op,d.a,d.b,d.c,d.n,e⟩]));have A:(((hr h).cons (X 6 1 [iE.t ⟨d.op,d.a,d.b,d.c,d.n,e⟩])).cons (X 6 0 [iE.t ⟨d.op,d.a,d.b,d.c,d.n,e⟩])).get j=some (X 10 O [.eZ (wj W v l e next)]):=by
  rw[fk,Z dR,fk,Z dR,iU];exact g
 have o:Gr (((hr h).cons (X 6 1 [iE.t ⟨d.op,d.a,d.b,d.c,d.n,e⟩])).cons (X 6 0 [iE.t ⟨d.op,d.a,d.b,d.c,d.n,e⟩])) l 6 (y.map iE.t):=gO.mono λm H=>by
  have:m<h.size:=f.fp m (.inr ⟨_,g,l,by simp[iq,T.cells,wj],H⟩);rw[fk,Z dR,fk,Z dR,iU]
 obtain⟨V,Q,z,i⟩:=o.app (cx:=cx) q.ok (x:= .arr (h.size+1) 0 0 1 false) (xs:=[iE.t ⟨d.op,d.a,d.b,d.c,d.n,e⟩]) Pv rfl XC Pv rfl rfl G (by rw[iR];simp) G G dR;obtain⟨r,U,L,M⟩:=q.app A o F i;have s:=(N.trans L).out;have u:=M.out (h:=h);simp only[wj]at g r s u;simp[f114,D,E,g,J,z,r,i.gr.jc,i.gr.cells,fG];exact⟨rfl,s,u⟩
structure Ol where
 (W:fy) (L:List (List Nat)) (n g:Nat) (e:fF) (d:Int)
def okW(W:fy):Prop:=W.cells.length<=1000000/\W.fI.length<=1000000/\W.iL.length<=1000000/\W.fH.length<=1000000/\W.ee.length<=1000000/\∃a,a<W.cells.length/\uZ (W.cells.map iY.name) [113] 0=a
def IR(a:Ol)(b:List T)(c:H):Prop:=b=[.fc a.g 0 0 0,a.e.t,C a.d]/\Gn a.W a.L a.n c a.g/\okW a.W/\a.L.length<=1000000/\ME a.e/\a.n+a.e.w<=10000000
def ai3(W:fy)(e:List (List Nat))(d g b:Nat)(f c:H):Prop:=Step b f c/\∃a,d<a/\a<=d+g/\Gn W e a c b
def Ep(a:Ol)(f:List T)(b:H)(d:T)(c:H):Prop:=d= .tuple []/\ai3 a.W a.L a.n a.e.w a.g b c
def qy{d:io}{l:Nat}{W:fy}{e:List (List Nat)}{c a:Nat}{i:iE}{f:H}{m:ah Oper}{j:aa Tmp}{k:List Oper}{o n:iM}{g:jE}(ht:d.h 114=some (km GZ xn ul))(r:Gn W e c f a)(q:c<=100000000)
 (p:∀b,Step a f b->Gn W e (c+1) b a->XK (some (.tuple [],b)) cx (tz prog cx d) l m j k o n g):XK (hl prog cx d 114 [.fc a 0 0 0,i.t] f) cx (tz prog cx d) l m j k o n g:=
 jB OR ht ⟨W,e,c,a,i⟩ ⟨rfl,r,q⟩ (by rintro _ b ⟨rfl,u,s⟩;exact p b u s)
def afI{e:io}{p:Nat}{W:fy}{f:List (List Nat)}{d a:Nat}{l:iE}{b:H}{r:ah Oper}{i:List (Nat×Nat)}{j:aa Tmp}{q:Op}{n:List Oper}{m:Nat}{o:List (Nat×Nat)}{k:List (Nat×H×H)}{u s:iM}{g:jE}(ht:e.h 114=some (km GZ xn ul))(x:Gn W f d b a)(w:d<=100000000)
 (v:∀c,Step a b c->Gn W f (d+1) c a->VN (some (.tuple [],c)) cx (tz prog cx e) p r i j q n m o k u s b g):VN (hl prog cx e 114 [.fc a 0 0 0,l.t] b) cx (tz prog cx e) p r i j q n m o k u s b g:=
 mf OR ht ⟨W,f,d,a,l⟩ ⟨rfl,x,w⟩ (by rintro _ c ⟨rfl,z,y⟩;exact v c z y)
def R1(c:Nat)(H:(km Ol (λf a b=>IR f a b/\f.e.w<c) Ep).Ok prog cx 203):(km Ol (λf a b=>IR f a b/\f.e.w<c+1) Ep).Ok prog cx 203:=by
 refine kh (tb:=⟨pt [(126,Fg),(235,vC)],ht [(114,km GZ xn ul),(203,km Ol (λf a b=>IR f a b/\f.e.w<c) Ep)]⟩) jv jl (jF 20282409606012871684182924853463 [] func203) (λ_ _=>5) (λf a b aA=>by obtain⟨⟨rfl,_⟩,_⟩:=aA;simp[f203]) ?_;rintro⟨W,s,q,v,u,L⟩ _ b ⟨⟨rfl,c,k,y,hE,an⟩,ab⟩ bN l;simp only at c k y hE an ab;simp at l;obtain⟨d,S,i⟩:=l;obtain⟨m,ae,al⟩:=k.2.2.2.2.2;have bi:=c.lt;have P:(v=b.size)=False:=dR;obtain⟨bC,bs,bA,next,O,D,gO,a7⟩:=c.ex;simp only[wj]at D;have o:=c.hr.cons (X 4 0 [u.t]);have l1:=Lb.new c.hr.lt c.hr.fp (X 4 0 [u.t]);have r:=Step.cons c.ok.hr c.hr.lt (X 4 0 [u.t]);have R:=λ{tb:io} (b:tb.p 126=some Fg) K=>RW b s K B;have M:=λ{tb:io} (b:tb.p 235=some vC) K=>PS b W K k.1;have bg:=u.nd;simp[f203,S];cases hE with
 |num a=>
  simp[d,i];refine qy G o B λx h g=>?_;simp;exact⟨rfl,(r.trans h).out,q+1,dS,dS,g.out⟩
 |nm a=>
  simp[d,D,P,R];refine fN (λZ=>?_) (λZ=>?_)
  ·simp[d,i];refine qy G o B λx h g=>?_;simp;exact⟨rfl,(r.trans h).out,q+1,dS,dS,g.out⟩
  ·simp[d,i,D,P,M];refine qy G o B λx h g=>?_;simp;exact⟨rfl,(r.trans h).out,q+1,dS,dS,g.out⟩
 | @ix a l=>
  have U:(fF.mk 3 0 [113] [a]).w=1+a.w:=by rw[fF.nd];simp[fF.lq,fF.jS]
  simp[d,i];refine jB H G ⟨W,s,q,v,a,L⟩ ⟨⟨rfl,o,k,y,l,dS⟩,dS⟩ ?_;rintro _ T ⟨rfl,j,I,E,F,n⟩;simp only at j E F n;have l2:=l1.step j;obtain⟨bH,bu,bB,bp,aN,N,aX,a8⟩:=n.ex;simp only[wj,pZ]at N l2;simp[d,i,N,l2.get,M,al,ae];refine qy G n B λx h g=>?_;simp;exact⟨rfl,((r.trans j).trans h).out,I+1,dS,dS,g.out⟩
 | @bin z a A bn l V=>
  have U:(fF.mk z 0 [] [a,A]).w=1+a.w+A.w:=by rw[fF.nd];simp[fF.lq,fF.jS];omega
  simp[d,i,show¬z=1 by omega,show¬z=2 by omega,show¬z=3 by omega];refine jB H G ⟨W,s,q,v,a,L⟩ ⟨⟨rfl,o,k,y,l,dS⟩,dS⟩ ?_;rintro _ T ⟨rfl,j,I,E,F,n⟩;simp only at j E F n;have l2:=l1.step j;simp only[pZ]at l2;simp[d,i,l2.get,qm];refine jB H G ⟨W,s,I,v,A,_⟩ ⟨⟨rfl,n,k,y,V,dS⟩,dS⟩ ?_;rintro _ a6 ⟨rfl,J,aE,ap,av,Q⟩;simp only at J ap av Q;have l3:=l2.step J;simp[d,i,l3.get,qm];refine qy G Q B λx h g=>?_;simp;exact⟨rfl,(((r.trans j).trans J).trans h).out,aE+1,dS,dS,g.out⟩
abbrev SF:mN:=km Ol (λa b c=>IR a b c/\a.e.w<10000001) Ep
def Wu:SF.Ok prog cx 203:=z9 (λa:Ol=>a.e.w) R1 10000001
def LZ{g:io}{n:Nat}{W:fy}{f:List (List Nat)}{d b:Nat}{a:fF}{k:Int}{i:H}{o:ah Oper}{l:aa Tmp}{m:List Oper}{q p:iM}{j:jE}(ht:g.h 203=some SF)(y:Gn W f d i b)(u:okW W)(s:f.length<=1000000)(v:ME a)(x:d+a.w<=10000000)
 (r:∀c e,Step b i c->d<e->e<=d+a.w->Gn W f e c b->XK (some (.tuple [],c)) cx (tz prog cx g) n o l m q p j):XK (hl prog cx g 203 [.fc b 0 0 0,a.t,C k] i) cx (tz prog cx g) n o l m q p j:=
 jB Wu ht ⟨W,f,d,b,a,k⟩ ⟨⟨rfl,y,u,s,v,x⟩,dS⟩ (by rintro _ c ⟨rfl,E,e,z,A,D⟩;exact r c e E z A D)
structure ISt where
 (W:fy) (L:List (List Nat)) (n g:Nat) (s:eQ)
def Fo(a:ISt)(b:List T)(c:H):Prop:=b=[.fc a.g 0 0 0,a.s.t]/\Gn a.W a.L a.n c a.g/\okW a.W/\a.L.length<=1000000/\MS a.s/\a.n+a.s.w<=10000000
def AL(a:ISt)(f:List T)(d:H)(e:T)(c:H):Prop:=e= .tuple []/\Step a.g d c/\∃b,a.n<=b/\b<=a.n+a.s.w/\Gn a.W a.L b c a.g
def Na:(km ISt (λv y a=>Fo v y a/\v.s.op=1) AL).Ok prog cx 199:=by
 refine kh (tb:=⟨pt [(126,Fg),(235,vC)],ht [(114,km GZ xn ul),(203,SF)]⟩) jv jl (jF 36893488147419136123 [] func199) (λ_ _=>5) (λv y a ae=>by obtain⟨⟨rfl,_⟩,_⟩:=ae;simp[f199]) ?_;rintro⟨W,K,n,N,j⟩ _ a ⟨⟨rfl,c,e,o,q,Z⟩,u⟩ bB E;simp only at c e o q Z u;simp at E;obtain⟨b,Q⟩:=E;obtain⟨m,U,V⟩:=e.2.2.2.2.2;have bi:=c.lt;have ab:(N=a.size)=False:=dR;obtain⟨bA,bn,bu,next,O,A,gO,bg⟩:=c.ex;simp only[wj]at A;have H:=c.hr.cons (X 11 0 [j.t]);have l1:=Lb.new c.hr.lt c.hr.fp (X 11 0 [j.t]);have x:=Step.cons c.ok.hr c.hr.lt (X 11 0 [j.t]);have M:=λ{tb:io} (a:tb.p 126=some Fg) l=>RW a K l B;have z:=λ{tb:io} (a:tb.p 235=some vC) l=>PS a W l e.1;have an:=j.nd;have F:=q.ex (.inl u);simp[f199,b,Q,A,ab];cases g:j.index with
 |cons l r=>
  have al:=q.arr u (by rw[g];simp);have ap:=q.ind l (by rw[g];simp);rw[g,fF.lq]at an;simp[b,g];refine LZ G H e o ap B λR w f aN aX h=>?_;have l2:=l1.step f;simp only[pZ]at l2;simp[b,l2.get,qm];refine LZ G h e o F B λa8 av J bp bs I=>?_;have l3:=l2.step J;obtain⟨a7,aE,a6,aA,L,d,P,S⟩:=I.ex;simp only[wj]at d;simp[b,l3.get,d,z,al,V,U,qm];refine qy G I B λD k i=>?_;simp;exact⟨rfl,(((x.trans f).trans J).trans k).out,av+1,dS,dS,i.out⟩
 |nil=>
  simp[b,g];refine LZ G H e o F B λR w f aN aX h=>?_;have l2:=l1.step f;simp only[pZ]at l2;obtain⟨a7,aE,a6,aA,L,d,P,S⟩:=h.ex;simp only[wj]at d;simp[b,l2.get,d,M];refine fN (λT=>?_) (λT=>?_)
  ·simp[b];refine qy G h B λD k i=>?_;simp;exact⟨rfl,((x.trans f).trans k).out,w+1,dS,dS,i.out⟩
  ·simp[b,l2.get,d,z];refine qy G h B λD k i=>?_;simp;exact⟨rfl,((x.trans f).trans k).out,w+1,dS,dS,i.out⟩
def IQ:mN:=⟨λd a=>∃W c f b h,d=[.fc b 0 0 0,.str h]/\Gn W c f a b/\okW W,λ_ a g e=>e=a/\Ik g⟩
def T6:IQ.Ok prog cx 202:=by
 refine Ms (tb:=⟨pt [],ht []⟩) jv jl (jF 67117107 [] func202) false (λ_ _=>1000005) (λt f q=>by obtain⟨W,l,r,i,k,rfl,_⟩:=q;simp[f202]) ?_;rintro _ f ⟨W,l,r,i,k,rfl,e,m⟩ b j;simp at j;obtain⟨a,c⟩:=j;obtain⟨y,w,x,next,s,g,gO,u⟩:=e.ex;simp only[wj]at g;have hl:=m.2.2.1;simp[f202];refine ik W.iL.length B (λe b h=>h=hr f/\Y b 0 (.fc i 0 0 0)/\Y b 1 (.str k)/\Y b 5 (C e)) ?_ ?_ B (by simp[a,c])
 ·rintro v b h p n ⟨rfl,a,c,d⟩;simp[a,c,d,g,p];refine fN (λo=>?_) (λo=>?_)
  ·simp[d];exact tj f _ _ e.ok.hp (Fr.refl _ _) rfl ⟨rfl,G⟩
  ·simp[a,c,d,n]
 ·rintro b h ⟨rfl,a,c,d⟩;simp[a,d,g];exact tj f _ _ e.ok.hp (Fr.refl _ _) rfl ⟨rfl,G⟩
def Gn.opn{W:fy}{r:List (List Nat)}{a:Nat}{j:H}{h:Nat}(u:Gn W r a j h)(x:0<a):∃p o next,∃b:List iE,∃c g q k f,j.get h=some (X 10 p [.eZ (wj W r (.arr c g 0 a false) o next)])/\j.get c=some ⟨6,g,q,k,false,f⟩/\c≠h/\Fp j h c/\f.take a=b.map iE.t/\b.length=a/\∀e,e<a->∃w:iE,f[e]? =some w.t:=by
 obtain⟨p,y,o,next,b,i,gO,n⟩:=u.ex;rcases gO with⟨_,d⟩|⟨c,g,q,k,f,rfl,d,m⟩
 ·simp at d;subst d;simp at n;omega
 rw[aI,n]at i m;refine⟨p,o,next,b,c,g,q,k,f,i,d,λv=>by subst v;rw[i]at d;simp at d,.inr ⟨_,i,.arr c g 0 a false,by simp[iq,T.cells,wj],rfl⟩,m,n,λe s=>⟨b[e],?_⟩⟩;have:(f.take a)[e]? =(b.map iE.t)[e]? :=by rw[m]
 rw[cD,au s,aR,aB (l:=b) B]at this;exact this
def Wn(W:fy)(e:List (List Nat))(d b g:Nat)(f c:H):Prop:=Step b f c/\∃a,d<=a/\a<=d+g/\Gn W e a c b
structure af5 where
 (W:fy) (L:List (List Nat)) (n g:Nat) (l:List eQ)
def aah(a:af5)(b:List T)(c:H):Prop:=b=[.fc a.g 0 0 0,sl (a.l.map eQ.t)]/\Gn a.W a.L a.n c a.g/\okW a.W/\a.L.length<=1000000/\(∀d∈a.l,MS d)/\a.n+eQ.ws a.l<=10000000
abbrev Hg(e:Nat):mN:=km af5 (λa c b=>aah a c b/\eQ.ws a.l<e) (λa _ b f d=>f= .tuple []/\Wn a.W a.L a.n a.g (eQ.ws a.l) b d)
abbrev rSt(d:Nat):mN:=km ISt (λa b c=>Fo a b c/\a.s.w<d) AL
def PN{j:Nat}(z:(Hg j).Ok prog cx 113){g:io}{n:Nat}{W:fy}{f:List (List Nat)}{d b:Nat}{a:List eQ}{i:H}{o:ah Oper}{l:aa Tmp}{m:List Oper}{q p:iM}{k:jE}(ht:g.h 113=some (Hg j))(y:Gn W f d i b)(u:okW W)(s:f.length<=1000000)(x:∀F∈a,MS F)(w:d+eQ.ws a<=10000000)(v:eQ.ws a<j)
 (r:∀c e,Step b i c->d<=e->e<=d+eQ.ws a->Gn W f e c b->XK (some (.tuple [],c)) cx (tz prog cx g) n o l m q p k):XK (hl prog cx g 113 [.fc b 0 0 0,sl (a.map eQ.t)] i) cx (tz prog cx g) n o l m q p k:=
 jB z ht ⟨W,f,d,b,a⟩ ⟨⟨rfl,y,u,s,x,w⟩,v⟩ (by rintro _ c ⟨rfl,a,e,A,D,E⟩;exact r c e a A D E)
def DT(an:Nat)(a8:(Hg an).Ok prog cx 113):(km ISt (λi aA R=>(Fo i aA R/\i.s.w<an+1)/\(i.s.op=2\/i.s.op=3)) AL).Ok prog cx 200:=by
 refine kh (tb:=⟨pt [],ht [(114,km GZ xn ul),(203,SF),(113,Hg an)]⟩) jv jl (jF 590296373308659073275 [] func200) (λ_ _=>5) (λi aA R cb=>by obtain⟨⟨⟨rfl,_⟩,_⟩,_⟩:=cb;simp[f200]) ?_;rintro⟨W,Q,eh,o,Z⟩ _ R ⟨⟨⟨rfl,l,U,S,T,b9⟩,b7⟩,a7⟩ eK a6;simp only at l U S T b9 a7 b7;simp at a6;obtain⟨g,bN⟩:=a6;have ed:=l.lt;have ca:(o=R.size)=False:=dR;obtain⟨eE,et,c6,next,O,aE,gO,ec⟩:=l.ex;simp only[wj]at aE;have cd:=l.hr.cons (X 11 0 [Z.t]);have l1:=Lb.new l.hr.lt l.hr.fp (X 11 0 [Z.t]);have c7:=Step.cons l.ok.hr l.hr.lt (X 11 0 [Z.t]);have ef:=Z.nd;have b8:=T.ex (by rcases a7 with q|q<;>simp[q]);simp[f200,g,bN,aE,ca,gO.len (cx:=cx)];refine LZ G cd U S b8 B λdn j bp p1 p2 bg=>?_;have l2:=l1.step bp;simp only[pZ]at l2;obtain⟨eF,eu,eB,eo,di,aN,bB,bT⟩:=bg.ex;simp only[wj]at aN;simp[g,aN,bB.len (cx:=cx),bT];refine qy G bg B λds bs cp=>?_;have l3:=l2.step bs;simp[g,l3.get];refine PN a8 G cp U S T.bd B B λbS e bu p3 p4 bi=>?_;have l4:=l3.step bu;obtain⟨eH,ey,eC,c1,dk,ae,bC,bW⟩:=bi.ex;obtain⟨ap,A⟩:=bi.K4 ae bC bW c6 c1;simp only[wj]at ae ap A;have l5:=l4.step ap;have av:=(((c7.trans bp).trans bs).trans bu).trans ap;simp[g,ae,fG];generalize fJ bS o _=dv at*
 simp[l5.get];refine fN (λal=>?_) (λal=>?_)
 ·simp[g];refine qy G A B λH ab J=>?_;obtain⟨M,L,K,D,z,E,N,F,P,d,f,r,p,v,I,u⟩:=J.opn B;obtain⟨x,k⟩:=u j B;have h:j<e+1:=B;obtain⟨m,y⟩:=J.elem (i:=j) (x:=⟨x.op,x.a,((e+1:Nat):Int),x.c,x.n,x.jY⟩) f p r ⟨M,_,L,K,D,d,rfl,v,I,h⟩;simp only[wj]at d;simp[g,d,f,k,h];exact⟨rfl,((av.trans ab).trans (by simpa using m)).out,e+1,dS,dS,(by simpa using y:Gn W Q (e+1) _ o).out⟩
 simp[l5.get];refine fN (λal=>?_) (λal=>?_)
 ·simp[g];obtain⟨M,L,K,D,z,E,N,F,P,d,f,r,p,v,I,u⟩:=A.opn B;obtain⟨x,k⟩:=u j B;have h:j<e:=B;obtain⟨m,y⟩:=A.elem (i:=j) (x:=⟨x.op,x.a,(e:Int),x.c,x.n,x.jY⟩) f p r ⟨M,_,L,K,D,d,rfl,v,I,h⟩;simp only[wj]at d;simp[g,d,f,k,h];exact⟨rfl,(av.trans (by simpa using m)).out,e,dS,dS,(by simpa using y:Gn W Q e _ o).out⟩
 obtain⟨eI,eA,eD,er,dm,aX,bH,bX⟩:=A.ex;simp only[wj]at aX;simp[g,aX,bH.len (cx:=cx),bX];refine qy G A B λH ab J=>?_;have l6:=l5.step ab;obtain⟨M,L,K,D,z,E,N,F,P,d,f,r,p,v,I,u⟩:=J.opn B;obtain⟨x,k⟩:=u j B;have h:j<e+1:=B;obtain⟨m,y⟩:=J.elem (i:=j) (x:=⟨x.op,x.a,((e+1:Nat):Int),x.c,x.n,x.jY⟩) f p r ⟨M,_,L,K,D,d,rfl,v,I,h⟩;simp only[wj]at d;simp[g,d,f,k,h];replace m:Step o H (fJ H z ⟨6,E,N+1,F,false,P.set j (iE.t ⟨x.op,x.a,(e:Int)+1,x.c,x.n,x.jY⟩)⟩):=by simpa using m
 replace y:Gn W Q (e+1) (fJ H z ⟨6,E,N+1,F,false,P.set j (iE.t ⟨x.op,x.a,(e:Int)+1,x.c,x.n,x.jY⟩)⟩) o:=by simpa using y
 have cL:=l6.step m;generalize fJ H z _=ea at*
 clear d f k;simp[cL.get];refine PN a8 G y U S T.el B B λeb V c9 p5 p6 bn=>?_;have Kn:=((av.trans ab).trans m).trans c9;obtain⟨de,c4,cX,bA,z,E,N,F,P,d,f,r,p,v,b6,u⟩:=bn.opn B;obtain⟨x,k⟩:=u e B;have h:e<V:=B;obtain⟨dd,cF⟩:=bn.elem (i:=e) (x:=⟨x.op,(V:Int),x.b,x.c,x.n,x.jY⟩) f p r ⟨de,_,c4,cX,bA,d,rfl,v,b6,h⟩;simp only[wj]at d;simp[g,d,f,k,h];exact⟨rfl,(Kn.trans (by simpa using dd)).out,V,dS,dS,(by simpa using cF:Gn W Q V _ o).out⟩
structure IAr where
 (W:fy) (L:List (List Nat)) (n g:Nat) (s:eQ) (a b o:Int)
def w9(j:Nat)(S:(Hg j).Ok prog cx 113):(km IAr (λc D e=>D=[.fc c.g 0 0 0,c.s.t,C c.a,C c.b,C c.o]/\Fo ⟨c.W,c.L,c.n,c.g,c.s⟩ [.fc c.g 0 0 0,c.s.t] e/\c.s.w<j+1) (λc _ e r H=>AL ⟨c.W,c.L,c.n,c.g,c.s⟩ [] e r H)).Ok prog cx 201:=by
 refine kh (tb:=⟨pt [],ht [(114,km GZ xn ul),(113,Hg j)]⟩) jv jl (jF 1119 [] func201) (λ_ _=>5) (λc A e R=>by obtain⟨rfl,_⟩:=R;simp[f201]) ?_;rintro⟨W,av,bi,E,f,A,aE,bn⟩ _ e ⟨rfl,⟨_,d,q,m,p,P⟩,N⟩ bC u;simp only at d q m p P N;simp at u;obtain⟨i,I,J,K,l⟩:=u;have a8:=d.lt;have Q:(E=e.size)=False:=dR;obtain⟨bA,bp,ae,next,O,k,gO,a7⟩:=d.ex;simp only[wj]at k;have T:=d.hr.cons (X 11 0 [f.t]);have l1:=Lb.new d.hr.lt d.hr.fp (X 11 0 [f.t]);have al:=Step.cons d.ok.hr d.hr.lt (X 11 0 [f.t]);have bg:=f.nd;simp[f201,i,I,J,l,k,Q];refine qy G T B λaN y U=>?_;have l3:=l1.step y;simp only[pZ]at l3;simp[i,l3.get];refine PN S G U q m p.bd B B λaX Z an p3 p4 v=>?_;obtain⟨bB,bs,bu,ab,aA,h,F,M⟩:=v.ex;obtain⟨z,x⟩:=v.K4 h F M ae ab;simp only[wj]at h z x;simp[i,K,l,h,fG];refine qy G x B λa6 ap V=>?_;simp;exact⟨rfl,((((al.trans y).trans an).trans z).trans ap).out,Z+1,dS,dS,V.out⟩
def Sk(m:Nat)(H:(rSt m).Ok prog cx 159):(Hg m).Ok prog cx 113:=by
 refine kh (tb:=⟨pt [],ht [(159,rSt m)]⟩) jv jl (jF 275 [] func113) (λ_ _=>10000005) (λc J r F=>by obtain⟨⟨rfl,_⟩,_⟩:=F;simp[f113]) ?_;rintro⟨W,q,n,f,l⟩ _ r ⟨⟨rfl,j,v,s,u,E⟩,D⟩ d w;simp only at j v s u E D;simp at w;obtain⟨e,b⟩:=w;have hl:=eQ.xz (l:=l);simp[f113];refine ik l.length B (λc d g=>Step f (hr r) g/\(∃a,n<=a/\a<=n+eQ.ws (l.take c)/\Gn W q a g f)/\Y d 0 (.fc f 0 0 0)/\Y d 1 (sl (l.map eQ.t))/\Y d 4 (C c)) ?_ ?_ B (by simp[e,b,Step.refl j.ok.hr];exact⟨n,ax _,B,j.hr⟩)
 ·rintro c d g i A ⟨p,⟨a,y,o,k⟩,e,b,h⟩;have O:=eQ.IF l i;have N:=eQ.AD l (c+1);have L:=eQ.yk (aG i);simp[e,b,h,i];refine jB H G ⟨W,q,a,f,l[c]⟩ ⟨⟨rfl,k,v,s,u _ (aG i),dS⟩,dS⟩ ?_;rintro _ K ⟨rfl,z,I,p1,p2,x⟩;simp only at z p1 p2 x;simp[e,b,h,A];exact⟨p.trans z,I,B,B,x⟩
 ·rintro d g ⟨p,⟨a,y,o,k⟩,e,b,h⟩;rw[aL]at o;simp[b,h];exact⟨p.out,a,y,o,k.out⟩
def V9(A:Nat)(P:(Hg A).Ok prog cx 113):(rSt (A+1)).Ok prog cx 159:=by
 obtain⟨F,bi⟩:=hlI T6 (λ_ _ _ _ J=>J);refine kh (tb:=⟨pt [(126,Fg),(157,vw)],ht [(114,km GZ xn ul),(203,SF),(199,km ISt (λe Q i=>Fo e Q i/\e.s.op=1) AL),(200,km ISt (λe Q i=>(Fo e Q i/\e.s.w<A+1)/\(e.s.op=2\/e.s.op=3)) AL),
  (201,km IAr (λe aN i=>aN=[.fc e.g 0 0 0,e.s.t,C e.a,C e.b,C e.o]/\Fo ⟨e.W,e.L,e.n,e.g,e.s⟩ [.fc e.g 0 0 0,e.s.t] i/\e.s.w<A+1) (λe _ i r j=>AL ⟨e.W,e.L,e.n,e.g,e.s⟩ [] i r j)),(202,IQ)]⟩) jv jl (jF 365376106316094180278949616271352870286206697499 [(11,[(1,9)]),(13,[(1,9)]),(15,[(1,9)]),(34,[(7,12),(7,14)])] func159) (λ_ _=>5) (λe Q i bs=>by obtain⟨⟨rfl,_⟩,_⟩:=bs;simp[f159]) ?_
 rintro⟨W,D,k,y,l⟩ _ i ⟨⟨rfl,J,x,H,I,M⟩,N⟩ eb an;simp only at J x H I M N;simp at an;obtain⟨E,bg⟩:=an;have cd:=J.lt;have cp:(y=i.size)=False:=dR;obtain⟨dm,c1,dd,next,O,a6,gO,b9⟩:=J.ex;have av:=J.hr.cons (X 11 0 [l.t]);have l1:=Lb.new J.hr.lt J.hr.fp (X 11 0 [l.t]);have bC:=Step.cons J.ok.hr J.hr.lt (X 11 0 [l.t]);have cF:=l.nd;obtain⟨dn,c4,de,aE,bN,T,a7,bn⟩:=av.ex;obtain⟨Z,V⟩:=av.K4 T a7 bn aE aE;obtain⟨ds,c6,bB,bA,bS,U,a8,bp⟩:=V.ex;obtain⟨ab,f⟩:=V.K4 U a8 bp bB (IntKind.i64.wrap (bA+1));have l3:=(l1.step Z).step ab;simp only[wj,pZ]at a6 T Z V U ab f l3;simp[f159,E,bg,T,fG,U,qm];have m:=(bC.trans Z).trans ab;have R:=λ{tb:io} (ht:tb.h 202=some IQ) K=>bi ht [.fc y 0 0 0,.str K] _ ⟨W,D,k,y,K,rfl,f,x⟩;generalize fJ (fJ _ y _) y _=b7 at*
 obtain⟨dv,c7,di,cL,bT,z,bX,ca⟩:=f.ex;simp only[wj]at z;have aX:=λ{tb:io} (i:tb.p 126=some Fg) K=>RW i D K B;have eT:=λ{tb:io} (i:tb.p 126=some Fg) K=>RW i W.ee K (by have:=x.2.2.2.2.1;omega);have ae:=λ{tb:io} (i:tb.p 126=some Fg) K=>RW i W.fH K (by have:=x.2.2.2.1;omega);have S:=λ{tb:io} (i:tb.p 157=some vw) K=>PP i W.fI K x.2.1;simp[z,l3.get]
 repeat' (refine fN (λap=>?_) (λap=>?_)<;>simp[ap,E,l3.get])
 ·try simp[E,l3.get]
  refine jB Na G ⟨W,D,k,y,l⟩ ⟨⟨rfl,f,x,H,I,M⟩,by simpa using‹decide (l.op=1)=true›⟩ ?_;rintro _ j ⟨rfl,c,q,u,v,d⟩;simp;exact⟨rfl,(m.trans c).out,q,u,v,d.out⟩
 ·try simp[E,l3.get]
  refine jB (DT A P) G ⟨W,D,k,y,l⟩ ⟨⟨⟨rfl,f,x,H,I,M⟩,N⟩,.inl (by simpa using‹decide (l.op=2)=true›)⟩ ?_;rintro _ j ⟨rfl,c,q,u,v,d⟩;simp;exact⟨rfl,(m.trans c).out,q,u,v,d.out⟩
 ·try simp[E,l3.get]
  refine jB (DT A P) G ⟨W,D,k,y,l⟩ ⟨⟨⟨rfl,f,x,H,I,M⟩,N⟩,.inr (by simpa using‹decide (l.op=3)=true›)⟩ ?_;rintro _ j ⟨rfl,c,q,u,v,d⟩;simp;exact⟨rfl,(m.trans c).out,q,u,v,d.out⟩
 ·simp[l3.get,z,S];refine mf (w9 A P) G ⟨W,D,k,y,l,11,12,_⟩ ⟨rfl,⟨rfl,f,x,H,I,M⟩,N⟩ ?_;rintro _ j ⟨rfl,c,q,u,v,d⟩;simp;exact⟨rfl,(m.trans c).out,q,u,v,d.out⟩
 ·simp[l3.get,z,S];refine mf (w9 A P) G ⟨W,D,k,y,l,13,14,_⟩ ⟨rfl,⟨rfl,f,x,H,I,M⟩,N⟩ ?_;rintro _ j ⟨rfl,c,q,u,v,d⟩;simp;exact⟨rfl,(m.trans c).out,q,u,v,d.out⟩
 ·simp[l3.get,z,S];refine mf (w9 A P) G ⟨W,D,k,y,l,15,16,_⟩ ⟨rfl,⟨rfl,f,x,H,I,M⟩,N⟩ ?_;rintro _ j ⟨rfl,c,q,u,v,d⟩;simp;exact⟨rfl,(m.trans c).out,q,u,v,d.out⟩
 ·try simp[E,l3.get,z]
  refine jB (w9 A P) G ⟨W,D,k,y,l,17,18,_⟩ ⟨rfl,⟨rfl,f,x,H,I,M⟩,N⟩ ?_;rintro _ j ⟨rfl,c,q,u,v,d⟩;simp;exact⟨rfl,(m.trans c).out,q,u,v,d.out⟩
 ·try simp[E,l3.get,z]
  refine jB (w9 A P) G ⟨W,D,k,y,l,19,20,_⟩ ⟨rfl,⟨rfl,f,x,H,I,M⟩,N⟩ ?_;rintro _ j ⟨rfl,c,q,u,v,d⟩;simp;exact⟨rfl,(m.trans c).out,q,u,v,d.out⟩
 ·simp[R];refine qy G f B λj c d=>?_;simp;exact⟨rfl,(m.trans c).out,k+1,dS,dS,d.out⟩
 ·simp[R];refine qy G f B λj c d=>?_;simp;exact⟨rfl,(m.trans c).out,k+1,dS,dS,d.out⟩
 ·simp[R];refine qy G f B λj c d=>?_;simp;exact⟨rfl,(m.trans c).out,k+1,dS,dS,d.out⟩
 ·simp[l3.get,z,eT];refine qy G f B λj c d=>?_;simp;exact⟨rfl,(m.trans c).out,k+1,dS,dS,d.out⟩
 ·simp[l3.get,z,eT];refine qy G f B λj c d=>?_;simp;exact⟨rfl,(m.trans c).out,k+1,dS,dS,d.out⟩
 ·try simp[E,l3.get,z]
  refine LZ G f x H (I.ex (.inr (.inr (.inr (by simpa using‹decide (l.op=14)=true›))))) B λb8 bu c p1 p2 aA=>?_;obtain⟨ea,c9,dk,cX,bW,al,b6,cb⟩:=aA.ex;simp only[wj]at al;simp[E,(l3.step c).get,al,ae];refine qy G aA B λj bH d=>?_;simp;exact⟨rfl,((m.trans c).trans bH).out,bu+1,dS,dS,d.out⟩
 ·simp[E,l3.get,z,aX,ae];refine afI G f B λj c d=>?_;simp;exact⟨rfl,(m.trans c).out,k+1,dS,dS,d.out⟩
 ·exact⟨rfl,m.out,k,ax _,dS,f.out⟩
def QT(a:Nat):(Hg a).Ok prog cx 113:=by
 induction a with
 |zero=>intro d e ⟨f,_,b⟩;exact absurd b (Nat.not_lt_zero _)
 |succ a c=>exact Sk (a+1) (V9 a c)
