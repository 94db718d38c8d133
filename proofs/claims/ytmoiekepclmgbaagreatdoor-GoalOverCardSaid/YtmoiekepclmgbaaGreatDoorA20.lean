/- W06m -/
import Derived.Test.YtmoiekepclmgbaaGreatDoorA19
set_option linter.all false
set_option maxRecDepth 100000
set_option maxHeartbeats 0
namespace Go.Proofs.YtmoiekepclmgbaaGreatDoor
noncomputable section
open Go Go.TI Tryz
attribute [-simp] List.map_take List.map_drop List.map_append fU fK fh Bool.not_or Bool.not_and
attribute [simp] fT fM
def uT:iy:=⟨fc×List Nat,λa=>[a.1.t,.str a.2],λa=>a.1.cells.length<=1000000,λa=> G (uC (a.1.cells.map iK.name) a.2 0),λa c b=>by
 simp at b;rw[fc.inj b.1,b.2]⟩
def S7:uT.Ok prog cx 234:=by
 refine iq [] (jr 1049655 [] func234) (λo=>o.1.cells.length+1) (by simp[uT]) ?_;rintro⟨k,l⟩ hl b m;simp[uT]at hl m|-;obtain⟨p,c⟩:=m;simp[f234,p];refine gu k.cells.length D (λi b g=>iE 1 g/\g.get 0=some (dS 6 0 [k.t])/\dT b 1 (.str l)/\dT b 2 (.ptr 0 0 0 0)/\dT b 5 (G i)/\uC ((k.cells.drop i).map iK.name) l i=uC (k.cells.map iK.name) l 0) ?_ ?_ D (by simp[c])
 ·rintro i b g n q ⟨j,f,c,h,d,a⟩;rw[aH n,aL,uC]at a;simp[f,c,h,d,n];refine fw (λe=>?_) (λe=>?_)
  ·simp at e;rw[aq e]at a;simp[d,<-a,j.hp]
  ·simp at e;rw[ao e]at a;simp[f,c,h,d,q,a,j]
 ·rintro b g ⟨j,f,c,h,d,a⟩;simp[uC]at a;simp[f,h,d,<-a,j.hp]
def OL{c:gG}(ht:c.p 234=some uT)(a:fc)(b:List Nat)(hl:a.cells.length<=1000000):rl prog cx c 234 [a.t,.str b]=some (G (uC (a.cells.map iK.name) b 0)):=iA ht S7 (a,b) hl
def uP:iy:=⟨List ja×List Nat,λa=>[sl (a.1.map ja.t),.str a.2],λa=>a.1.length<=1000000,λa=> G (uC (a.1.map ja.name) a.2 0),λa c b=>by
 simp at b;rw[jH (λ_ _=>ja.inj) b.1,b.2]⟩
def SB:uP.Ok prog cx 156:=by
 refine iq [] (jr 262707 [] func156) (λm=>m.1.length+1) (by simp[uP]) ?_;rintro⟨h,j⟩ hl c k;simp[uP]at hl k|-;obtain⟨b,d⟩:=k;simp[f156];refine gu h.length D (λg c i=>i=hE/\dT c 0 (sl (h.map ja.t))/\dT c 1 (.str j)/\dT c 5 (G g)/\uC ((h.drop g).map ja.name) j g=uC (h.map ja.name) j 0) ?_ ?_ D (by simp[b,d])
 ·rintro g c i l n ⟨rfl,b,d,e,a⟩;rw[aH l,aL,uC]at a;simp[b,d,e,l];refine fw (λf=>?_) (λf=>?_)
  ·simp at f;rw[aq f]at a;simp[e,<-a]
  ·simp at f;rw[ao f]at a;simp[b,d,e,n,a]
 ·rintro c i ⟨rfl,b,d,e,a⟩;simp[uC]at a;simp[b,e,<-a]
def OH{c:gG}(ht:c.p 156=some uP)(a:List ja)(b:List Nat)(hl:a.length<=1000000):rl prog cx c 156 [sl (a.map ja.t),.str b]=some (G (uC (a.map ja.name) b 0)):=iA ht SB (a,b) hl
def vy(W:fc)(a:List (List Nat))(b:T)(c next:Int):List T:=
 [sl (W.cells.map iK.t),sl (W.fj.map ja.t),sl (W.iB.map jq.t),sl (W.fa.map T.str),sl (W.dW.map T.str),sl (W.ji.map jc.t),sl (a.map T.str),b,G c,G next]
structure Gn(W:fc)(L:List (List Nat))(n:Nat)(h:H)(g:Nat):Prop where
 ok:iE 0 h
 fp:∀b,Fp h g b->b<h.size
 ex:∃ver ov jK next,∃O:List io,h.get g=some (dS 10 ver [.agg (vy W L ov jK next)])/\Gr h ov 6 (O.map io.t)/\O.length=n
def Gn.lt{W:fc}{c:List (List Nat)}{e:Nat}{b:H}{a:Nat}(d:Gn W c e b a):a<b.size:=d.fp a (.inl rfl)
def Gn.same{W:fc}{f:List (List Nat)}{k:Nat}{c d:H}{b:Nat}(j:Gn W f k c b)(q:iE 0 d)(h:∀a,Fp c b a->d.get a=c.get a)(p:c.size<=d.size):Gn W f k d b:=by
 obtain⟨s,l,r,next,m,g,n,o⟩:=j.ex;have i:=h b (.inl rfl);exact⟨q,λa e=>by rw[jt i]at e;exact bF (j.fp a e) p,s,l,r,next,m,by rw[i];exact g,n.mono λa e=>h a (.inr ⟨_,g,l,by simp[gH,T.cells,vy],e⟩),o⟩
theorem Gn.cons{W:fc}{b:List (List Nat)}{e:Nat}{d:H}{c:Nat}(a:Gn W b e d c)(f:jv):Gn W b e (d.cons f) c:=
 a.same (a.ok.cons f) (λg h=>by rw[ez,ao (by have:=a.fp g h;omega)]) Y 
def Gn.hr{W:fc}{b:List (List Nat)}{e:Nat}{a:H}{c:Nat}(d:Gn W b e a c):Gn W b e (TI.hr a) c:=d.same d.ok.hr (λf _=>iI a f) (au _)
def Gn.out{W:fc}{b:List (List Nat)}{e:Nat}{h a:H}{c:Nat}(d:Gn W b e a c):Gn W b e (mK h a) c:=d.same (d.ok.out h) (λf _=>il h a f) (au _)
def Gn.J4{W:fc}{a:List (List Nat)}{h b f:Nat}{c:H}{d:T}{q next:Int}{g:List io}(k:Gn W a h c b)(l:c.get b=some (dS 10 f [.agg (vy W a d q next)]))(gO:Gr c d 6 (g.map io.t))(m:g.length=h)(e next':Int):
 Step b c (fg c b (dS 10 (f+1) [.agg (vy W a d e next')]))/\Gn W a h (fg c b (dS 10 (f+1) [.agg (vy W a d e next')])) b:=by
 obtain⟨i,n,o,p⟩:=DB k.ok k.fp l (cells':=vy W a d e next') (λr j=>by
  simp[vy]at j|-;rcases j with rfl|rfl|rfl|rfl|rfl|rfl|rfl|rfl|rfl|rfl<;>simp) _ rfl
 exact⟨i,⟨i.ok.hp,i.ok.low,aw _⟩,n,f+1,d,e,next',g,o,p _ _ _ gO dP,m⟩
def Gn.app{W:fc}{b:List (List Nat)}{n a f:Nat}{c d:H}{h j:T}{e next:Int}{g:List io}{x:io}(o:Gn W b n c a)(k:c.get a=some (dS 10 f [.agg (vy W b h e next)]))(gO:Gr c h 6 (g.map io.t))(r:g.length=n)(s:Dt c h 6 (g.map io.t++[x.t]) j d):
 d.get a=some (dS 10 f [.agg (vy W b h e next)])/\fQ c d a=true/\Step a c (fg d a (dS 10 (f+1) [.agg (vy W b j e next)]))/\Gn W b (n+1) (fg d a (dS 10 (f+1) [.agg (vy W b j e next)])) a:=by
 obtain⟨l,u⟩:=yJ (i:=7) o.ok o.fp k rfl dP gO s.xt;obtain⟨m,p,q,v⟩:=u _ rfl;exact⟨l.trans k,fZ l,m,⟨m.ok.hp,m.ok.low,aw _⟩,p,f+1,j,e,next,g++[x],by rw[ee (l.trans k),aq rfl],by rw[List.map_append];exact q,by simp[r]⟩
def Gn.elem{W:fc}{k:List (List Nat)}{g c b d h:Nat}{f:Bool}{a:H}{e:List T}{i:Nat}{x:io}(u:Gn W k g a c)(m:a.get b=some ⟨6,d,h,f,false,e⟩)(A:Fp a c b)(r:b≠c)
 (B:∃q n o next,∃j:List io,a.get c=some (dS 10 q [.agg (vy W k n o next)])/\n= .arr b d 0 g false/\e.take g=j.map io.t/\j.length=g/\i<g):
 Step c a (fg a b ⟨6,d,h+1,f,false,e.set i x.t⟩)/\Gn W k g (fg a b ⟨6,d,h+1,f,false,e.set i x.t⟩) c:=by
 obtain⟨q,n,o,next,j,y,rfl,z,l,C⟩:=B;have p:=Step.adv u.ok m A r ⟨6,d,h+1,f,false,e.set i x.t⟩;have s:(fg a b ⟨6,d,h+1,f,false,e.set i x.t⟩).get c=a.get c:=by rw[ee m,ao (br r)]
 refine⟨p,⟨p.ok.hp,p.ok.low,aw _⟩,λw v=>by rw[jt s]at v;rw[ig];exact u.fp w v,q,_,o,next,j.set i x,by rw[s];exact y,.inr ⟨b,d,h+1,f,e.set i x.t,by simp[l],by rw[ee m,aq rfl],?_⟩,by simp[l]⟩;rw[aG,dc,l,List.take_set,z,aU]
structure F5 where
 (W:fc) (L:List (List Nat)) (n g:Nat) (i:io)
def wN(a:F5)(b:List T)(c:H):Prop:=b=[.ptr a.g 0 0 0,a.i.t]/\Gn a.W a.L a.n c a.g/\a.n<=100000000
def tu(a:F5)(e:List T)(c:H)(d:T)(b:H):Prop:=d= .tuple []/\Step a.g c b/\Gn a.W a.L (a.n+1) b a.g
def NK:(jY F5 wN tu).Ok prog cx 112:=by
 refine jV (tb:=⟨pt [],ht []⟩) jg iT (jr 11 [] func112) (λ_ _=>5) (λd O h J=>by obtain⟨rfl,_⟩:=J;simp[f112]) ?_;rintro⟨W,v,R,j,d⟩ _ h ⟨rfl,f,H⟩ V p;simp only at f H;simp at p;obtain⟨B,C⟩:=p;have Q:=f.lt;have I:(j=h.size)=False:=dN;obtain⟨N,l,e,next,y,g,gO,E⟩:=f.ex;have k:=(f.hr.cons (dS 6 1 [io.t ⟨d.op,d.a,d.b,d.c,d.n,e⟩]));have q:=k.cons (dS 6 0 [io.t ⟨d.op,d.a,d.b,d.c,d.n,e⟩]);have M:=(Step.cons (w:=j) f.ok.hr f.lt (dS 6 1 [io.t ⟨d.op,d.a,d.b,d.c,d.n,e⟩])).trans (Step.cons k.ok k.lt (dS 6 0 [io.t ⟨d.op,d.a,d.b,d.c,d.n,e⟩]));have A:(((hr h).cons (dS 6 1 [io.t ⟨d.op,d.a,d.b,d.c,d.n,e⟩])).cons (dS 6 0 [io.t ⟨d.op,d.a,d.b,d.c,d.n,e⟩])).get j=some (dS 10 N [.agg (vy W v l e next)]):=by
  rw[ez,ao dN,ez,ao dN,iI];exact g
 have o:Gr (((hr h).cons (dS 6 1 [io.t ⟨d.op,d.a,d.b,d.c,d.n,e⟩])).cons (dS 6 0 [io.t ⟨d.op,d.a,d.b,d.c,d.n,e⟩])) l 6 (y.map io.t):=gO.mono λm F=>by
  have:m<h.size:=f.fp m (.inr ⟨_,g,l,by simp[gH,T.cells,vy],F⟩);rw[ez,ao dN,ez,ao dN,iI]
 obtain⟨U,P,z,i⟩:=o.app (cx:=cx) q.ok (x:= .arr (h.size+1) 0 0 1 false) (xs:=[io.t ⟨d.op,d.a,d.b,d.c,d.n,e⟩]) Oi rfl WE Oi rfl rfl Y (by rw[iF];simp) Y Y dN;obtain⟨r,S,K,L⟩:=q.app A o E i;have s:=(M.trans K).out;have u:=L.out (h:=h);simp only[vy]at g r s u;simp[f112,B,C,g,I,z,r,i.gr.iN,i.gr.cells,eZ];exact⟨rfl,s,u⟩
structure Ni where
 (W:fc) (L:List (List Nat)) (n g:Nat) (e:eY) (d:Int)
def okW(W:fc):Prop:=W.cells.length<=1000000/\W.fj.length<=1000000/\W.iB.length<=1000000/\W.fa.length<=1000000/\W.dW.length<=1000000/\∃a,a<W.cells.length/\uC (W.cells.map iK.name) [113] 0=a
def HW(a:Ni)(b:List T)(c:H):Prop:=b=[.ptr a.g 0 0 0,a.e.t,G a.d]/\Gn a.W a.L a.n c a.g/\okW a.W/\a.L.length<=1000000/\ME a.e/\a.n+a.e.w<=10000000
def ain(W:fc)(e:List (List Nat))(d g b:Nat)(f c:H):Prop:=Step b f c/\∃a,d<a/\a<=d+g/\Gn W e a c b
def DA(a:Ni)(f:List T)(b:H)(d:T)(c:H):Prop:=d= .tuple []/\ain a.W a.L a.n a.e.w a.g b c
def pX{d:gG}{l:Nat}{W:fc}{e:List (List Nat)}{c a:Nat}{i:io}{f:H}{m:af Oper}{j:aa Tmp}{k:List Oper}{o n:iz}{g:jp}(ht:d.h 112=some (jY F5 wN tu))(r:Gn W e c f a)(q:c<=100000000)
 (p:∀b,Step a f b->Gn W e (c+1) b a->XK (some (.tuple [],b)) cx (sq prog cx d) l m j k o n g):XK (hl prog cx d 112 [.ptr a 0 0 0,i.t] f) cx (sq prog cx d) l m j k o n g:=
 jm NK ht ⟨W,e,c,a,i⟩ ⟨rfl,r,q⟩ (by rintro _ b ⟨rfl,u,s⟩;exact p b u s)
def aeY{e:gG}{p:Nat}{W:fc}{f:List (List Nat)}{d a:Nat}{l:io}{b:H}{r:af Oper}{i:List (Nat×Nat)}{j:aa Tmp}{q:Op}{n:List Oper}{m:Nat}{o:List (Nat×Nat)}{k:List (Nat×H×H)}{u s:iz}{g:jp}(ht:e.h 112=some (jY F5 wN tu))(x:Gn W f d b a)(w:d<=100000000)
 (v:∀c,Step a b c->Gn W f (d+1) c a->UY (some (.tuple [],c)) cx (sq prog cx e) p r i j q n m o k u s b g):UY (hl prog cx e 112 [.ptr a 0 0 0,l.t] b) cx (sq prog cx e) p r i j q n m o k u s b g:=
 lH NK ht ⟨W,f,d,a,l⟩ ⟨rfl,x,w⟩ (by rintro _ c ⟨rfl,z,y⟩;exact v c z y)
def Q2(c:Nat)(F:(jY Ni (λf a b=>HW f a b/\f.e.w<c) DA).Ok prog cx 202):(jY Ni (λf a b=>HW f a b/\f.e.w<c+1) DA).Ok prog cx 202:=by
 refine jV (tb:=⟨pt [(124,Es),(234,uT)],ht [(112,jY F5 wN tu),(202,jY Ni (λf a b=>HW f a b/\f.e.w<c) DA)]⟩) jg iT (jr 20282409606012871684182924853463 [] func202) (λ_ _=>5) (λf a b av=>by obtain⟨⟨rfl,_⟩,_⟩:=av;simp[f202]) ?_;rintro⟨W,s,q,v,u,K⟩ _ b ⟨⟨rfl,c,k,y,hE,al⟩,X⟩ bN l;simp only at c k y hE al X;simp at l;obtain⟨d,R,i⟩:=l;obtain⟨m,Z,ae⟩:=k.2.2.2.2.2;have bi:=c.lt;have N:(v=b.size)=False:=dN;obtain⟨bC,bs,bA,next,O,B,gO,a6⟩:=c.ex;simp only[vy]at B;have o:=c.hr.cons (dS 4 0 [u.t]);have l1:=Lb.new c.hr.lt c.hr.fp (dS 4 0 [u.t]);have r:=Step.cons c.ok.hr c.hr.lt (dS 4 0 [u.t]);have Q:=λ{tb:gG} (b:tb.p 124=some Es) J=>QU b s J D;have L:=λ{tb:gG} (b:tb.p 234=some uT) J=>OL b W J k.1;have a8:=u.mR;simp[f202,R];cases hE with
 |num a=>
  simp[d,i];refine pX Y o D λx h g=>?_;simp;exact⟨rfl,(r.trans h).out,q+1,dO,dO,g.out⟩
 |nm a=>
  simp[d,B,N,Q];refine fw (λV=>?_) (λV=>?_)
  ·simp[d,i];refine pX Y o D λx h g=>?_;simp;exact⟨rfl,(r.trans h).out,q+1,dO,dO,g.out⟩
  ·simp[d,i,B,N,L];refine pX Y o D λx h g=>?_;simp;exact⟨rfl,(r.trans h).out,q+1,dO,dO,g.out⟩
 | @ix a l=>
  have T:(eY.mk 3 0 [113] [a]).w=1+a.w:=by rw[eY.mR];simp[eY.kL,eY.jE]
  simp[d,i];refine jm F Y ⟨W,s,q,v,a,K⟩ ⟨⟨rfl,o,k,y,l,dO⟩,dO⟩ ?_;rintro _ S ⟨rfl,j,H,C,E,n⟩;simp only at j C E n;have l2:=l1.step j;obtain⟨bH,bu,bB,bp,aE,M,aN,a7⟩:=n.ex;simp only[vy,pB]at M l2;simp[d,i,M,l2.get,L,ae,Z];refine pX Y n D λx h g=>?_;simp;exact⟨rfl,((r.trans j).trans h).out,H+1,dO,dO,g.out⟩
 | @bin z a A bn l U=>
  have T:(eY.mk z 0 [] [a,A]).w=1+a.w+A.w:=by rw[eY.mR];simp[eY.kL,eY.jE];omega
  simp[d,i,show¬z=1 by omega,show¬z=2 by omega,show¬z=3 by omega];refine jm F Y ⟨W,s,q,v,a,K⟩ ⟨⟨rfl,o,k,y,l,dO⟩,dO⟩ ?_;rintro _ S ⟨rfl,j,H,C,E,n⟩;simp only at j C E n;have l2:=l1.step j;simp only[pB]at l2;simp[d,i,l2.get,pP];refine jm F Y ⟨W,s,H,v,A,_⟩ ⟨⟨rfl,n,k,y,U,dO⟩,dO⟩ ?_;rintro _ aX ⟨rfl,I,aA,an,ap,P⟩;simp only at I an ap P;have l3:=l2.step I;simp[d,i,l3.get,pP];refine pX Y P D λx h g=>?_;simp;exact⟨rfl,(((r.trans j).trans I).trans h).out,aA+1,dO,dO,g.out⟩
abbrev Rz:mr:=jY Ni (λa b c=>HW a b c/\a.e.w<10000001) DA
def VJ:Rz.Ok prog cx 202:=yW (λa:Ni=>a.e.w) Q2 10000001
def K2{g:gG}{n:Nat}{W:fc}{f:List (List Nat)}{d b:Nat}{a:eY}{k:Int}{i:H}{o:af Oper}{l:aa Tmp}{m:List Oper}{q p:iz}{j:jp}(ht:g.h 202=some Rz)(y:Gn W f d i b)(u:okW W)(s:f.length<=1000000)(v:ME a)(x:d+a.w<=10000000)
 (r:∀c e,Step b i c->d<e->e<=d+a.w->Gn W f e c b->XK (some (.tuple [],c)) cx (sq prog cx g) n o l m q p j):XK (hl prog cx g 202 [.ptr b 0 0 0,a.t,G k] i) cx (sq prog cx g) n o l m q p j:=
 jm VJ ht ⟨W,f,d,b,a,k⟩ ⟨⟨rfl,y,u,s,v,x⟩,dO⟩ (by rintro _ c ⟨rfl,C,e,z,A,B⟩;exact r c e C z A B)
structure ISt where
 (W:fc) (L:List (List Nat)) (n g:Nat) (s:ei)
def EA(a:ISt)(b:List T)(c:H):Prop:=b=[.ptr a.g 0 0 0,a.s.t]/\Gn a.W a.L a.n c a.g/\okW a.W/\a.L.length<=1000000/\MS a.s/\a.n+a.s.w<=10000000
def Ab(a:ISt)(f:List T)(d:H)(e:T)(c:H):Prop:=e= .tuple []/\Step a.g d c/\∃b,a.n<=b/\b<=a.n+a.s.w/\Gn a.W a.L b c a.g
def Mi:(jY ISt (λv y a=>EA v y a/\v.s.op=1) Ab).Ok prog cx 198:=by
 refine jV (tb:=⟨pt [(124,Es),(234,uT)],ht [(112,jY F5 wN tu),(202,Rz)]⟩) jg iT (jr 36893488147419136123 [] func198) (λ_ _=>5) (λv y a Z=>by obtain⟨⟨rfl,_⟩,_⟩:=Z;simp[f198]) ?_;rintro⟨W,J,n,M,j⟩ _ a ⟨⟨rfl,c,e,o,q,V⟩,u⟩ bB C;simp only at c e o q V u;simp at C;obtain⟨b,P⟩:=C;obtain⟨m,T,U⟩:=e.2.2.2.2.2;have bi:=c.lt;have X:(M=a.size)=False:=dN;obtain⟨bA,bn,bu,next,O,A,gO,a8⟩:=c.ex;simp only[vy]at A;have F:=c.hr.cons (dS 11 0 [j.t]);have l1:=Lb.new c.hr.lt c.hr.fp (dS 11 0 [j.t]);have x:=Step.cons c.ok.hr c.hr.lt (dS 11 0 [j.t]);have L:=λ{tb:gG} (a:tb.p 124=some Es) l=>QU a J l D;have z:=λ{tb:gG} (a:tb.p 234=some uT) l=>OL a W l e.1;have al:=j.mR;have E:=q.ex (.inl u);simp[f198,b,P,A,X];cases g:j.index with
 |cons l r=>
  have ae:=q.arr u (by rw[g];simp);have an:=q.ind l (by rw[g];simp);rw[g,eY.kL]at al;simp[b,g];refine K2 Y F e o an D λQ w f aE aN h=>?_;have l2:=l1.step f;simp only[pB]at l2;simp[b,l2.get,pP];refine K2 Y h e o E D λa7 ap I bp bs H=>?_;have l3:=l2.step I;obtain⟨a6,aA,aX,av,K,d,N,R⟩:=H.ex;simp only[vy]at d;simp[b,l3.get,d,z,ae,U,T,pP];refine pX Y H D λB k i=>?_;simp;exact⟨rfl,(((x.trans f).trans I).trans k).out,ap+1,dO,dO,i.out⟩
 |nil=>
  simp[b,g];refine K2 Y F e o E D λQ w f aE aN h=>?_;have l2:=l1.step f;simp only[pB]at l2;obtain⟨a6,aA,aX,av,K,d,N,R⟩:=h.ex;simp only[vy]at d;simp[b,l2.get,d,L];refine fw (λS=>?_) (λS=>?_)
  ·simp[b];refine pX Y h D λB k i=>?_;simp;exact⟨rfl,((x.trans f).trans k).out,w+1,dO,dO,i.out⟩
  ·simp[b,l2.get,d,z];refine pX Y h D λB k i=>?_;simp;exact⟨rfl,((x.trans f).trans k).out,w+1,dO,dO,i.out⟩
def HU:mr:=⟨λd a=>∃W c f b h,d=[.ptr b 0 0 0,.str h]/\Gn W c f a b/\okW W,λ_ a g e=>e=a/\Hm g⟩
def SX:HU.Ok prog cx 201:=by
 refine Lr (tb:=⟨pt [],ht []⟩) jg iT (jr 67117107 [] func201) false (λ_ _=>1000005) (λt f q=>by obtain⟨W,l,r,i,k,rfl,_⟩:=q;simp[f201]) ?_;rintro _ f ⟨W,l,r,i,k,rfl,e,m⟩ b j;simp at j;obtain⟨a,c⟩:=j;obtain⟨y,w,x,next,s,g,gO,u⟩:=e.ex;simp only[vy]at g;have hl:=m.2.2.1;simp[f201];refine gu W.iB.length D (λe b h=>h=hr f/\dT b 0 (.ptr i 0 0 0)/\dT b 1 (.str k)/\dT b 5 (G e)) ?_ ?_ D (by simp[a,c])
 ·rintro v b h p n ⟨rfl,a,c,d⟩;simp[a,c,d,g,p];refine fw (λo=>?_) (λo=>?_)
  ·simp[d];exact sg f _ _ e.ok.hp (Fr.refl _ _) rfl ⟨rfl,Y⟩
  ·simp[a,c,d,n]
 ·rintro b h ⟨rfl,a,c,d⟩;simp[a,d,g];exact sg f _ _ e.ok.hp (Fr.refl _ _) rfl ⟨rfl,Y⟩
def Gn.opn{W:fc}{r:List (List Nat)}{a:Nat}{j:H}{h:Nat}(u:Gn W r a j h)(x:0<a):∃p o next,∃b:List io,∃c g q k f,j.get h=some (dS 10 p [.agg (vy W r (.arr c g 0 a false) o next)])/\j.get c=some ⟨6,g,q,k,false,f⟩/\c≠h/\Fp j h c/\f.take a=b.map io.t/\b.length=a/\∀e,e<a->∃w:io,f[e]? =some w.t:=by
 obtain⟨p,y,o,next,b,i,gO,n⟩:=u.ex;rcases gO with⟨_,d⟩|⟨c,g,q,k,f,rfl,d,m⟩
 ·simp at d;subst d;simp at n;omega
 rw[aG,n]at i m;refine⟨p,o,next,b,c,g,q,k,f,i,d,λv=>by subst v;rw[i]at d;simp at d,.inr ⟨_,i,.arr c g 0 a false,by simp[gH,T.cells,vy],rfl⟩,m,n,λe s=>⟨b[e],?_⟩⟩;have:(f.take a)[e]? =(b.map io.t)[e]? :=by rw[m]
 rw[ci,aq s,aR,az (l:=b) D]at this;exact this
def VB(W:fc)(e:List (List Nat))(d b g:Nat)(f c:H):Prop:=Step b f c/\∃a,d<=a/\a<=d+g/\Gn W e a c b
structure afl where
 (W:fc) (L:List (List Nat)) (n g:Nat) (l:List ei)
def Zx(a:afl)(b:List T)(c:H):Prop:=b=[.ptr a.g 0 0 0,sl (a.l.map ei.t)]/\Gn a.W a.L a.n c a.g/\okW a.W/\a.L.length<=1000000/\(∀d∈a.l,MS d)/\a.n+ei.ws a.l<=10000000
abbrev Gf(e:Nat):mr:=jY afl (λa c b=>Zx a c b/\ei.ws a.l<e) (λa _ b f d=>f= .tuple []/\VB a.W a.L a.n a.g (ei.ws a.l) b d)
abbrev rSt(d:Nat):mr:=jY ISt (λa b c=>EA a b c/\a.s.w<d) Ab
def OD{j:Nat}(z:(Gf j).Ok prog cx 111){g:gG}{n:Nat}{W:fc}{f:List (List Nat)}{d b:Nat}{a:List ei}{i:H}{o:af Oper}{l:aa Tmp}{m:List Oper}{q p:iz}{k:jp}(ht:g.h 111=some (Gf j))(y:Gn W f d i b)(u:okW W)(s:f.length<=1000000)(x:∀E∈a,MS E)(w:d+ei.ws a<=10000000)(v:ei.ws a<j)
 (r:∀c e,Step b i c->d<=e->e<=d+ei.ws a->Gn W f e c b->XK (some (.tuple [],c)) cx (sq prog cx g) n o l m q p k):XK (hl prog cx g 111 [.ptr b 0 0 0,sl (a.map ei.t)] i) cx (sq prog cx g) n o l m q p k:=
 jm z ht ⟨W,f,d,b,a⟩ ⟨⟨rfl,y,u,s,x,w⟩,v⟩ (by rintro _ c ⟨rfl,a,e,A,B,C⟩;exact r c e a A B C)
def C1(al:Nat)(a7:(Gf al).Ok prog cx 111):(jY ISt (λi av Q=>(EA i av Q/\i.s.w<al+1)/\(i.s.op=2\/i.s.op=3)) Ab).Ok prog cx 199:=by
 refine jV (tb:=⟨pt [],ht [(112,jY F5 wN tu),(202,Rz),(111,Gf al)]⟩) jg iT (jr 590296373308659073275 [] func199) (λ_ _=>5) (λi av Q cb=>by obtain⟨⟨⟨rfl,_⟩,_⟩,_⟩:=cb;simp[f199]) ?_;rintro⟨W,P,er,o,V⟩ _ Q ⟨⟨⟨rfl,l,T,R,S,b9⟩,b7⟩,a6⟩ eM aX;simp only at l T R S b9 a6 b7;simp at aX;obtain⟨g,bN⟩:=aX;have eh:=l.lt;have ca:(o=Q.size)=False:=dN;obtain⟨eH,ey,c7,next,O,aA,gO,ef⟩:=l.ex;simp only[vy]at aA;have cp:=l.hr.cons (dS 11 0 [V.t]);have l1:=Lb.new l.hr.lt l.hr.fp (dS 11 0 [V.t]);have c9:=Step.cons l.ok.hr l.hr.lt (dS 11 0 [V.t]);have eo:=V.mR;have b8:=S.ex (by rcases a6 with q|q<;>simp[q]);simp[f199,g,bN,aA,ca,gO.len (cx:=cx)];refine K2 Y cp T R b8 D λds j bp p1 p2 a8=>?_;have l2:=l1.step bp;simp only[pB]at l2;obtain⟨eI,eA,eD,et,dk,aE,bB,bT⟩:=a8.ex;simp only[vy]at aE;simp[g,aE,bB.len (cx:=cx),bT];refine pX Y a8 D λdv bs cF=>?_;have l3:=l2.step bs;simp[g,l3.get];refine OD a7 Y cF T R S.bd D D λbS e bu p3 p4 bi=>?_;have l4:=l3.step bu;obtain⟨eK,eB,eE,c4,dm,Z,bC,bW⟩:=bi.ex;obtain⟨an,A⟩:=bi.J4 Z bC bW c7 c4;simp only[vy]at Z an A;have l5:=l4.step an;have ap:=(((c9.trans bp).trans bs).trans bu).trans an;simp[g,Z,eZ];generalize fg bS o _=ea at*
 simp[l5.get];refine fw (λae=>?_) (λae=>?_)
 ·simp[g];refine pX Y A D λF X I=>?_;obtain⟨L,K,J,B,z,C,M,E,N,d,f,r,p,v,H,u⟩:=I.opn D;obtain⟨x,k⟩:=u j D;have h:j<e+1:=D;obtain⟨m,y⟩:=I.elem (i:=j) (x:=⟨x.op,x.a,((e+1:Nat):Int),x.c,x.n,x.jK⟩) f p r ⟨L,_,K,J,B,d,rfl,v,H,h⟩;simp only[vy]at d;simp[g,d,f,k,h];exact⟨rfl,((ap.trans X).trans (by simpa using m)).out,e+1,dO,dO,(by simpa using y:Gn W P (e+1) _ o).out⟩
 simp[l5.get];refine fw (λae=>?_) (λae=>?_)
 ·simp[g];obtain⟨L,K,J,B,z,C,M,E,N,d,f,r,p,v,H,u⟩:=A.opn D;obtain⟨x,k⟩:=u j D;have h:j<e:=D;obtain⟨m,y⟩:=A.elem (i:=j) (x:=⟨x.op,x.a,(e:Int),x.c,x.n,x.jK⟩) f p r ⟨L,_,K,J,B,d,rfl,v,H,h⟩;simp only[vy]at d;simp[g,d,f,k,h];exact⟨rfl,(ap.trans (by simpa using m)).out,e,dO,dO,(by simpa using y:Gn W P e _ o).out⟩
 obtain⟨eL,eC,eF,eu,dn,aN,bH,bX⟩:=A.ex;simp only[vy]at aN;simp[g,aN,bH.len (cx:=cx),bX];refine pX Y A D λF X I=>?_;have l6:=l5.step X;obtain⟨L,K,J,B,z,C,M,E,N,d,f,r,p,v,H,u⟩:=I.opn D;obtain⟨x,k⟩:=u j D;have h:j<e+1:=D;obtain⟨m,y⟩:=I.elem (i:=j) (x:=⟨x.op,x.a,((e+1:Nat):Int),x.c,x.n,x.jK⟩) f p r ⟨L,_,K,J,B,d,rfl,v,H,h⟩;simp only[vy]at d;simp[g,d,f,k,h];replace m:Step o F (fg F z ⟨6,C,M+1,E,false,N.set j (io.t ⟨x.op,x.a,(e:Int)+1,x.c,x.n,x.jK⟩)⟩):=by simpa using m
 replace y:Gn W P (e+1) (fg F z ⟨6,C,M+1,E,false,N.set j (io.t ⟨x.op,x.a,(e:Int)+1,x.c,x.n,x.jK⟩)⟩) o:=by simpa using y
 have cX:=l6.step m;generalize fg F z _=eb at*
 clear d f k;simp[cX.get];refine OD a7 Y y T R S.el D D λec U dd p5 p6 bn=>?_;have Jg:=((ap.trans X).trans m).trans dd;obtain⟨di,c6,c1,bA,z,C,M,E,N,d,f,r,p,v,b6,u⟩:=bn.opn D;obtain⟨x,k⟩:=u e D;have h:e<U:=D;obtain⟨de,cL⟩:=bn.elem (i:=e) (x:=⟨x.op,(U:Int),x.b,x.c,x.n,x.jK⟩) f p r ⟨di,_,c6,c1,bA,d,rfl,v,b6,h⟩;simp only[vy]at d;simp[g,d,f,k,h];exact⟨rfl,(Jg.trans (by simpa using de)).out,U,dO,dO,(by simpa using cL:Gn W P U _ o).out⟩
structure IAr where
 (W:fc) (L:List (List Nat)) (n g:Nat) (s:ei) (a b o:Int)
def wB(j:Nat)(Q:(Gf j).Ok prog cx 111):(jY IAr (λc A e=>A=[.ptr c.g 0 0 0,c.s.t,G c.a,G c.b,G c.o]/\EA ⟨c.W,c.L,c.n,c.g,c.s⟩ [.ptr c.g 0 0 0,c.s.t] e/\c.s.w<j+1) (λc _ e X E=>Ab ⟨c.W,c.L,c.n,c.g,c.s⟩ [] e X E)).Ok prog cx 200:=by
 refine jV (tb:=⟨pt [],ht [(112,jY F5 wN tu),(111,Gf j)]⟩) jg iT (jr 1119 [] func200) (λ_ _=>5) (λc z e P=>by obtain⟨rfl,_⟩:=P;simp[f200]) ?_;rintro⟨W,ap,bi,B,f,z,aA,bn⟩ _ e ⟨rfl,⟨_,d,q,m,p,M⟩,K⟩ bC r;simp only at d q m p M K;simp at r;obtain⟨i,F,H,I,l⟩:=r;have a7:=d.lt;have N:(B=e.size)=False:=dN;obtain⟨bA,bp,Z,next,O,k,gO,a6⟩:=d.ex;simp only[vy]at k;have R:=d.hr.cons (dS 11 0 [f.t]);have l1:=Lb.new d.hr.lt d.hr.fp (dS 11 0 [f.t]);have ae:=Step.cons d.ok.hr d.hr.lt (dS 11 0 [f.t]);have a8:=f.mR;simp[f200,i,F,H,l,k,N];refine pX Y R D λaE x S=>?_;have l3:=l1.step x;simp only[pB]at l3;simp[i,l3.get];refine OD Q Y S q m p.bd D D λaN U al p3 p4 u=>?_;obtain⟨bB,bs,bu,V,av,h,C,J⟩:=u.ex;obtain⟨y,v⟩:=u.J4 h C J Z V;simp only[vy]at h y v;simp[i,I,l,h,eZ];refine pX Y v D λaX an T=>?_;simp;exact⟨rfl,((((ae.trans x).trans al).trans y).trans an).out,U+1,dO,dO,T.out⟩
def Re(m:Nat)(F:(rSt m).Ok prog cx 158):(Gf m).Ok prog cx 111:=by
 refine jV (tb:=⟨pt [],ht [(158,rSt m)]⟩) jg iT (jr 275 [] func111) (λ_ _=>10000005) (λc I r E=>by obtain⟨⟨rfl,_⟩,_⟩:=E;simp[f111]) ?_;rintro⟨W,q,n,f,l⟩ _ r ⟨⟨rfl,j,v,s,u,C⟩,B⟩ d w;simp only at j v s u C B;simp at w;obtain⟨e,b⟩:=w;have hl:=ei.wW (l:=l);simp[f111];refine gu l.length D (λc d g=>Step f (hr r) g/\(∃a,n<=a/\a<=n+ei.ws (l.take c)/\Gn W q a g f)/\dT d 0 (.ptr f 0 0 0)/\dT d 1 (sl (l.map ei.t))/\dT d 4 (G c)) ?_ ?_ D (by simp[e,b,Step.refl j.ok.hr];exact⟨n,au _,D,j.hr⟩)
 ·rintro c d g i A ⟨p,⟨a,y,o,k⟩,e,b,h⟩;have M:=ei.HL l i;have L:=ei.zL l (c+1);have K:=ei.xH (aC i);simp[e,b,h,i];refine jm F Y ⟨W,q,a,f,l[c]⟩ ⟨⟨rfl,k,v,s,u _ (aC i),dO⟩,dO⟩ ?_;rintro _ J ⟨rfl,z,H,p1,p2,x⟩;simp only at z p1 p2 x;simp[e,b,h,A];exact⟨p.trans z,H,D,D,x⟩
 ·rintro d g ⟨p,⟨a,y,o,k⟩,e,b,h⟩;rw[aI]at o;simp[b,h];exact⟨p.out,a,y,o,k.out⟩
def Vk(A:Nat)(N:(Gf A).Ok prog cx 111):(rSt (A+1)).Ok prog cx 158:=by
 obtain⟨F,bi⟩:=hlI SX (λ_ _ _ _ I=>I);refine jV (tb:=⟨pt [(124,Es),(156,uP)],ht [(112,jY F5 wN tu),(202,Rz),(198,jY ISt (λe P i=>EA e P i/\e.s.op=1) Ab),(199,jY ISt (λe P i=>(EA e P i/\e.s.w<A+1)/\(e.s.op=2\/e.s.op=3)) Ab),
  (200,jY IAr (λe aE i=>aE=[.ptr e.g 0 0 0,e.s.t,G e.a,G e.b,G e.o]/\EA ⟨e.W,e.L,e.n,e.g,e.s⟩ [.ptr e.g 0 0 0,e.s.t] i/\e.s.w<A+1) (λe _ i r j=>Ab ⟨e.W,e.L,e.n,e.g,e.s⟩ [] i r j)),(201,HU)]⟩) jg iT (jr 365376106316094180278949616271352870286206697499 [(11,[(1,9)]),(13,[(1,9)]),(15,[(1,9)]),(34,[(7,12),(7,14)])] func158) (λ_ _=>5) (λe P i bs=>by obtain⟨⟨rfl,_⟩,_⟩:=bs;simp[f158]) ?_
 rintro⟨W,B,k,y,l⟩ _ i ⟨⟨rfl,I,x,E,H,K⟩,M⟩ ec al;simp only at I x E H K M;simp at al;obtain⟨C,a8⟩:=al;have cp:=I.lt;have cF:(y=i.size)=False:=dN;obtain⟨dn,c4,de,next,O,aX,gO,b9⟩:=I.ex;have ap:=I.hr.cons (dS 11 0 [l.t]);have l1:=Lb.new I.hr.lt I.hr.fp (dS 11 0 [l.t]);have bC:=Step.cons I.ok.hr I.hr.lt (dS 11 0 [l.t]);have cL:=l.mR;obtain⟨ds,c6,di,aA,bN,S,a6,bn⟩:=ap.ex;obtain⟨V,U⟩:=ap.J4 S a6 bn aA aA;obtain⟨dv,c7,bB,bA,bS,T,a7,bp⟩:=U.ex;obtain⟨X,f⟩:=U.J4 T a7 bp bB (IntKind.i64.wrap (bA+1));have l3:=(l1.step V).step X;simp only[vy,pB]at aX S V U T X f l3;simp[f158,C,a8,S,eZ,T,pP];have m:=(bC.trans V).trans X;have Q:=λ{tb:gG} (ht:tb.h 201=some HU) J=>bi ht [.ptr y 0 0 0,.str J] _ ⟨W,B,k,y,J,rfl,f,x⟩;generalize fg (fg _ y _) y _=b7 at*
 obtain⟨ea,c9,dk,cX,bT,z,bX,ca⟩:=f.ex;simp only[vy]at z;have aN:=λ{tb:gG} (i:tb.p 124=some Es) J=>QU i B J D;have eT:=λ{tb:gG} (i:tb.p 124=some Es) J=>QU i W.dW J (by have:=x.2.2.2.2.1;omega);have Z:=λ{tb:gG} (i:tb.p 124=some Es) J=>QU i W.fa J (by have:=x.2.2.2.1;omega);have R:=λ{tb:gG} (i:tb.p 156=some uP) J=>OH i W.fj J x.2.1;simp[z,l3.get]
 repeat' (refine fw (λan=>?_) (λan=>?_)<;>simp[an,C,l3.get])
 ·try simp[C,l3.get]
  refine jm Mi Y ⟨W,B,k,y,l⟩ ⟨⟨rfl,f,x,E,H,K⟩,by simpa using‹decide (l.op=1)=true›⟩ ?_;rintro _ j ⟨rfl,c,q,u,v,d⟩;simp;exact⟨rfl,(m.trans c).out,q,u,v,d.out⟩
 ·try simp[C,l3.get]
  refine jm (C1 A N) Y ⟨W,B,k,y,l⟩ ⟨⟨⟨rfl,f,x,E,H,K⟩,M⟩,.inl (by simpa using‹decide (l.op=2)=true›)⟩ ?_;rintro _ j ⟨rfl,c,q,u,v,d⟩;simp;exact⟨rfl,(m.trans c).out,q,u,v,d.out⟩
 ·try simp[C,l3.get]
  refine jm (C1 A N) Y ⟨W,B,k,y,l⟩ ⟨⟨⟨rfl,f,x,E,H,K⟩,M⟩,.inr (by simpa using‹decide (l.op=3)=true›)⟩ ?_;rintro _ j ⟨rfl,c,q,u,v,d⟩;simp;exact⟨rfl,(m.trans c).out,q,u,v,d.out⟩
 ·simp[l3.get,z,R];refine lH (wB A N) Y ⟨W,B,k,y,l,11,12,_⟩ ⟨rfl,⟨rfl,f,x,E,H,K⟩,M⟩ ?_;rintro _ j ⟨rfl,c,q,u,v,d⟩;simp;exact⟨rfl,(m.trans c).out,q,u,v,d.out⟩
 ·simp[l3.get,z,R];refine lH (wB A N) Y ⟨W,B,k,y,l,13,14,_⟩ ⟨rfl,⟨rfl,f,x,E,H,K⟩,M⟩ ?_;rintro _ j ⟨rfl,c,q,u,v,d⟩;simp;exact⟨rfl,(m.trans c).out,q,u,v,d.out⟩
 ·simp[l3.get,z,R];refine lH (wB A N) Y ⟨W,B,k,y,l,15,16,_⟩ ⟨rfl,⟨rfl,f,x,E,H,K⟩,M⟩ ?_;rintro _ j ⟨rfl,c,q,u,v,d⟩;simp;exact⟨rfl,(m.trans c).out,q,u,v,d.out⟩
 ·try simp[C,l3.get,z]
  refine jm (wB A N) Y ⟨W,B,k,y,l,17,18,_⟩ ⟨rfl,⟨rfl,f,x,E,H,K⟩,M⟩ ?_;rintro _ j ⟨rfl,c,q,u,v,d⟩;simp;exact⟨rfl,(m.trans c).out,q,u,v,d.out⟩
 ·try simp[C,l3.get,z]
  refine jm (wB A N) Y ⟨W,B,k,y,l,19,20,_⟩ ⟨rfl,⟨rfl,f,x,E,H,K⟩,M⟩ ?_;rintro _ j ⟨rfl,c,q,u,v,d⟩;simp;exact⟨rfl,(m.trans c).out,q,u,v,d.out⟩
 ·simp[Q];refine pX Y f D λj c d=>?_;simp;exact⟨rfl,(m.trans c).out,k+1,dO,dO,d.out⟩
 ·simp[Q];refine pX Y f D λj c d=>?_;simp;exact⟨rfl,(m.trans c).out,k+1,dO,dO,d.out⟩
 ·simp[Q];refine pX Y f D λj c d=>?_;simp;exact⟨rfl,(m.trans c).out,k+1,dO,dO,d.out⟩
 ·simp[l3.get,z,eT];refine pX Y f D λj c d=>?_;simp;exact⟨rfl,(m.trans c).out,k+1,dO,dO,d.out⟩
 ·simp[l3.get,z,eT];refine pX Y f D λj c d=>?_;simp;exact⟨rfl,(m.trans c).out,k+1,dO,dO,d.out⟩
 ·try simp[C,l3.get,z]
  refine K2 Y f x E (H.ex (.inr (.inr (.inr (by simpa using‹decide (l.op=14)=true›))))) D λb8 bu c p1 p2 av=>?_;obtain⟨eb,dd,dm,c1,bW,ae,b6,cb⟩:=av.ex;simp only[vy]at ae;simp[C,(l3.step c).get,ae,Z];refine pX Y av D λj bH d=>?_;simp;exact⟨rfl,((m.trans c).trans bH).out,bu+1,dO,dO,d.out⟩
 ·simp[C,l3.get,z,aN,Z];refine aeY Y f D λj c d=>?_;simp;exact⟨rfl,(m.trans c).out,k+1,dO,dO,d.out⟩
 ·exact⟨rfl,m.out,k,au _,dO,f.out⟩
def PL(a:Nat):(Gf a).Ok prog cx 111:=by
 induction a with
 |zero=>intro d e ⟨f,_,b⟩;exact absurd b (Nat.not_lt_zero _)
 |succ a c=>exact Re (a+1) (Vk a c)
