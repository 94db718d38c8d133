/- X02 -/
import Derived.Test.YtbappgeamhmmbaaGreatDoorA17
set_option linter.all false
set_option maxRecDepth 100000
set_option maxHeartbeats 0
namespace Go.Proofs.YtbappgeamhmmbaaGreatDoor
noncomputable section
open Go Go.TI Tryz
attribute [-simp] List.map_take List.map_drop List.map_append fj ez TI.d8 Bool.not_or Bool.not_and
attribute [simp] fh eG
def vh:List Int:=[3,3,3,3,3,4,4,4,4,4,5,5,5,6,6,6,7,7,7,8,9,10,11,12,13,14,14,15,16,16,17,17,18,18,19,20,1,1,2,21,22,23,23]
def tT:ge:=⟨Unit,λ_=>[],λ_=>True,λ_=>sl (vh.map (T.int .i64)),λ_ _ _=>rfl⟩
def QT:tT.Ok prog cx 112:=by
 refine fR [] (iP 1 [] func112) (λ_=>5) (by simp[tT]) ?_;rintro _ _ b a;simp[tT]at a|-;simp[f112,gh,vh]
def _root_.Go.TI.Xt.EL{d b:H}{f g:T}{e:Nat}{c:List T}(a:Xt d f e c g b):gH 0 b:=⟨a.2.2.2.hp,a.2.2.2.low,aw _⟩
def _root_.Go.TI.Xt.R0{i e:H}{j k:T}{d:List Int}(c:Xt i j 1 (d.map (T.int .i64)) k e)(g:Int)(m:d.length<=1000000):∃a b,iN cx (e.cons (Z 1 0 [D g])) 25 25 k (.arr e.size 0 0 1 false)=some (.val a b)/\a.fg=true/\a.cells=[a]/\Xt i j 1 ((d++[g]).map (T.int .i64)) a b:=by
 have⟨a,b,l,h⟩:=c.1.mQ (cx:=cx) (f:=T.int .i64) c.EL kO rfl nN rfl J (λ_=>rfl) g dp;exact⟨a,b,l,h.1.fg,h.1.cells,c.trans h⟩
def yo:mW prog cx 162 (λa:dZ=>[a.t]) (λa=>a.fk.dC.length<=1000) (λa G=>∃y:List Int,G=sl (y.map (T.int .i64))/\y.length<=a.fk.dC.length):=by
 refine iS [] (iP 134975 [] func162) (λa=>a.fk.dC.length+5) (λK b e=>by simp at e;exact dZ.inj e) ?_;rintro a hl d w;simp at w;simp[f162,w];generalize v:H.cons hE _=o;have A:o.get 0=some (Z 7 0 [a.t]):=by subst v;simp
 have s:gH 1 o:=by subst v;exact⟨J,J,J⟩
 refine fc a.fk.dC.length B (λl d e=>dy d 1 (.ptr 0 0 0 0)/\dy d 8 (sl (a.fk.dC.map dE.t))/\dy d 9 (D a.fk.dC.length)/\dy d 10 (D l)/\∃(m:T) (f:List Int),dy d 3 m/\Xt o dw 1 (f.map (T.int .i64)) m e/\f.length<=l) ?_ ?_ B ⟨J,J,J,J,dw,[],J,Xt.refl (Gr.nil _ _) ⟨s.hp,s.low,aw _⟩,au _⟩
 ·rintro l d e q p ⟨g,j,k,h,m,f,i,c,x⟩;have N:=s.sz;have n:=(c.2.1 0 B J).trans A;have z:gH 1 e:=⟨c.2.2.2.hp,c.2.2.2.low,by have:=c.2.2.2.sz;omega⟩;have r:=z.ne (b:=0) B;simp[n,g,i,j,k,h,q,p,r,z.low];refine dV (λC=>?_) (λC=>?_)
  ·have⟨M,L,u,E,F,I⟩:=(c.cons (Z 3 1 [a.fk.dC[l].t])).R0 l B;rw[size_cons]at u;simp[n,g,i,j,k,h,q,p,r,u,E,F];exact⟨_,I,dp⟩
  ·simp[n,g,i,j,k,h,q,p,r];exact⟨_,c.cons _,B⟩
 ·rintro d e ⟨g,j,k,h,m,f,i,c,x⟩;simp[g,i,j,k,h,c.1.fg,c.1.qA J,c.2.2.2.hp];exact⟨f,rfl,x⟩
structure AL where
 (L:List Int) (b p:Nat) (v:T) (ns:List Int)
def tU(a:AL)(d:List T)(c:H):Prop:=d=[.ptr a.b 0 0 0,a.v]/\Gr c a.v 1 (a.ns.map (T.int .i64))/\dM a.v≠some a.b/\uD a.p a.L a.b c/\gH 0 c/\okB a.L/\a.ns.length<=1000
def ta(a:AL)(g:List T)(e:H)(f:T)(c:H):Prop:=∃d:List Int,f=sl (d.map (T.int .i64))/\d.length<=a.ns.length/\uD a.p a.L a.b c/\Sm a.b e c
def r7.xt{m:Nat}{k:List Int}{b:Nat}{c e f:H}{n t:T}{s:Nat}{o:List T}(d:r7 m k b c e)(j:Xt e n s o t f)(q:∀a,dM n=some a->c.size<=a)(l:b<c.size):r7 m k b c f:=by
 have u:=d.w.size;have i:∀a,a<c.size->f.get a=e.get a:=λa h=>j.2.1 a B λr=>by have:=q a r;omega
 exact⟨⟨j.EL,by have:=j.2.2.2.sz;omega,λa h p=>(i a h).trans (d.w.get a h p),d.w.tp.eq (i b l)⟩,d.g.eq (i b l)⟩
def _root_.Go.TI.FT.aey{c:H}{o:Nat->Prop}{g p:Nat}(l:p<=12)(s:∀a,o a->g<=a){b n:T}(ft:FT c o p b n)(r:∀i,b≠ .agg i)(w:∀i,b≠ .tuple i):∃k,iZ c g b=some k/\cn k=n:=by
 have q:=(ft.deep l).fzN s;have u:(M (iu c 0 b) λb=>some (cn b))=some n:=(ft.deep l).fz;have v:iZ c g b=iu c 0 b:=by
  rcases ft.deep l with⟨z,m,rfl⟩|⟨a,d,h,f,e,E,F,rfl,y,G,x,rfl⟩|⟨i,C,rfl,x,rfl⟩
  ·cases b<;>first|exact(r _ rfl).elim|exact q|(simp[jJ]at z)|exact(w _ rfl).elim
  ·have m:∀j,iu c j (.arr a d h f e)=(Bool.casesOn (Nat.ble j a) (some (.arr a d h f e)) (TI.freeze c j 12 (.arr a d h f e)):aa T):=λj=>rfl;show iu c g (.arr a d h f e)=iu c 0 (.arr a d h f e);rw[m,m,show Nat.ble g a=true from bR (s a y),show Nat.ble 0 a=true from bR (aw a),q]
  ·exact absurd rfl (r _)
 rw[<-v]at u;have⟨k,A,t⟩:=dB.1 u;simp only[ar]at t;exact⟨k,A,t⟩
def wx{c g h:Type}{d:g->h->Prop}{e:c->g}{f:c->h}{a:List c}(i:∀b,d (e b) (f b)):ir d (a.map e) (a.map f):=by
 induction a with
 |nil=>exact .nil
 |cons b a j=>exact .cons (i b) j
def _root_.Go.TI.Gr.Zx{l:Type}{a:l->T}{b:H}{h:T}{s g d:Nat}{j:List l}(f:Gr b h s (j.map a))(v:d<=11)(q:∀i,dM h=some i->g<=i)(p:∀c b V,FT b V d (a c) (a c)):∃k,iZ b g h=some k/\cn k=sl (j.map a):=
 (f.ft (V:=λe=>g<=e) (d:=d) q (wx λc=>p c _ _)).aey B (λ_ r=>r) (λm=>by rcases f with⟨rfl,_⟩|⟨e,n,t,o,u,rfl,_⟩<;>simp) (λm=>by rcases f with⟨rfl,_⟩|⟨e,n,t,o,u,rfl,_⟩<;>simp)
def Vh:(jr AL tU ta).Ok prog cx 115:=by
 refine p9 (tb:=⟨pt [],ht [(64,ko)]⟩) iB gW (iP 16781299 [] func115) (λ_ _=>1005) (λi a s aX=>by obtain⟨rfl,_⟩:=aX;simp[f115]) ?_;rintro⟨X,t,U,G,y⟩ _ s ⟨rfl,v,R,F,S,N,hl⟩ h O;simp only at v R F N hl;simp at O;obtain⟨e,b⟩:=O;have P:=F.tp.lt;simp[f115,e,b,v.len];refine fc y.length B (λi h u=>dy h 0 (.ptr t 0 0 0)/\dy h 1 G/\dy h 8 G/\dy h 9 (D y.length)/\dy h 10 (D i)/\r7 U X t (TI.hr s) u/\∃(p:T) (r:List Int),dy h 5 p/\Gr u p 1 (r.map (T.int .i64))/\(∀c,dM p=some c->s.size<=c)/\r.length<=i) ?_ ?_ B ⟨by simp[e],by simp[b],by simp[b],J,J,r7.refl S.hr (F.eq (gu s t)),_,[],J,Gr.nil _ _,J,au _⟩
 ·rintro i h u Q E ⟨e,b,m,n,j,q,p,r,l,go,o,aE⟩;have M:Gr u G 1 (y.map (T.int .i64)):=v.mono λc f=>by
   have⟨_,_,_,_,z,_⟩:=v.box f;exact(q.w.get c (H.ej z) λC=>R (by rw[<-C];exact f)).trans (gu s c)
  have⟨bl,bn,bC,bs,bH,_,al,ap,K⟩:=M.IG (te:=Eu) rfl (i:=i) (by simpa using Q);have ae:binop .add (D (i:Int)) (D 3)=some (D ((i:Int)+3)):=ij B B;simp at K;simp[e,b,l,m,n,j,Q,al,ap,K,ae,M.len];have⟨k,av,an,bz,t2,W⟩:=On (tb:=⟨pt [],ht [(64,ko)]⟩) J q.g q.w.ok N 2 B B;refine Xp (λf=>?_) (λf=>?_)
  ·simp[an,f];refine⟨_,_,⟨rfl,rfl⟩,?_⟩;have A:=(q.call W t2).le (Nat.le_succ U);have aN:dM p≠some t:=λz=>by have:=o t z;omega
   have L:Gr av p 1 (r.map (T.int .i64)):=go.mono λc f=>W.get c λC=>aN (by rw[<-C];exact f);simp[e,b,l,m,n,j];refine dV (λaA=>?_) (λaA=>?_)
   ·have⟨bB,bu,Y,a7,a8,I⟩:=(Xt.refl L A.w.ok).R0 y[i] B;simp[e,b,l,m,n,j,Y,a7,a8,E];exact⟨A.xt I o P,_,I.1,λc f=>(I.2.2.1 c f).elim (o c) λz=>by have:=A.w.size;simp at this;omega,dp⟩
   ·simp[e,b,l,m,n,j,E];exact⟨A,_,L,o,B⟩
  ·simp[f];refine⟨_,_,⟨rfl,rfl⟩,?_⟩;simp[e,b,l,m,n,j,E];exact⟨q,_,go,o,B⟩
 ·rintro h u ⟨e,b,m,n,j,q,p,r,l,go,o,aE⟩;simp[e,b,l,m,n,j,go.fg];exact q.cut S P (go.Zx (d:=1) B o λx s V=>fZ ..) λbi bk=>⟨r,rfl,dq,bk,bi⟩
structure Sb where
 (L:List Int) (b p:Nat) (x0 x1 x2 x3 x4 x5 v:T) (K:List Int)
def pw(a:Sb)(d:List T)(c:H):Prop:=d=[.ptr a.b 0 0 0,.agg [a.x0,a.x1,a.x2,a.x3,a.x4,a.x5,a.v]]/\uD a.p a.L a.b c/\gH 0 c/\okB a.L/\a.K.length<=98/\Gr c a.v 1 (a.K.map (T.int .i64))/\dM a.v≠some a.b/\(T.agg [a.x0,a.x1,a.x2,a.x3,a.x4,a.x5,a.v]).fg=true
def nH(a:Sb)(g:List T)(e:H)(f:T)(d:H):Prop:=∃c:Int,f= D c/\-1<=c/\c<a.K.length/\uD a.p a.L a.b d/\Sm a.b e d
def vq{g:Nat}{d:List Int}{c:Nat}{a b:H}(l:r7 g d c (TI.hr a) b)(k:gH 0 a)(i:c<a.size){e:ak}{f:Int}{h:T->H->Prop}
 (j:Sm c a (tM a b)->uD g d c (tM a b)->h (.int e f) (tM a b)):xK a (.int e f) b h:=l.cut k i ⟨_,rfl,rfl⟩ j
def JV:(jr Sb pw nH).Ok prog cx 65:=by
 refine p9 (tb:=⟨pt [],ht [(64,ko)]⟩) iB gW (iP 4194363 [] func65) (λ_ _=>5) (λi a c aE=>by obtain⟨rfl,_⟩:=aE;simp[f65]) ?_;rintro⟨V,j,Q,s,t,u,v,x,y,m,b⟩ _ c ⟨rfl,p,P,I,hl,e,O,n⟩ bu K;simp only at p I hl e O n;simp at K;obtain⟨k,l⟩:=K;have al:=p.tp.lt;have L:(j=c.size)=False:=dp;have r:=(r7.refl P.hr (p.eq (gu c j))).cons (Z 7 0 [.agg [s,t,u,v,x,y,m]]);have⟨d,G,C,bn,t2,R⟩:=On (tb:=⟨pt [],ht [(64,ko)]⟩) J r.g r.w.ok I (b.length+2) B B;have U:=(r.call R t2).le (Nat.le_succ Q);have F:=(R.get c.size B).trans (by rw[dO,nh,aq rfl]);have z:binop .add (D (b.length:Int)) (D 2)=some (D ((b.length:Int)+2)):=ij B B;have fin:∀h:Int,-1<=h->h<b.length->xK c (D h) G (nH ⟨V,j,Q,s,t,u,v,x,y,m,b⟩ [.ptr j 0 0 0,.agg [s,t,u,v,x,y,m]] c):=λh aN aX=>vq U P al λa7 a8=>⟨h,rfl,aN,aX,a8,a7⟩;have S:=e.cells;have N:=e.len (cx:=cx);by_cases ap:(d:Int)-2<0
 ·have o:binop .sub (D (d:Int)) (D 2)=some (D ((d:Int)-2)):=DB rfl B B;simp[f65,k,l,L,z,C,o,F,ap,n,S,N];exact fin _ B B
 have⟨f,aA⟩:∃f:Nat,(d:Int)-2=f:=⟨d-2,B⟩;have o:binop .sub (D (d:Int)) (D 2)=some (D (f:Int)):=DB aA B B;have av:f<b.length:=B;have ae:Gr G m 1 (b.map (T.int .i64)):=e.mono λA M=>by
  have⟨_,_,_,_,q,_⟩:=e.box M;have:=H.ej q;exact(U.w.get A (by simpa using this) λW=>O (by rw[<-W];exact M)).trans (gu c A)
 have⟨bi,bk,bs,bl,bz,_,X,Y,E⟩:=ae.IG (te:=Eu) rfl (i:=f) (by simpa using av);simp at E;simp[f65,k,l,L,z,C,o,F,n,S,N,X,Y,E];refine dV (λan=>?_) (λan=>?_)
 ·simp[k,l];exact fin _ B B
 ·simp[k,l];exact fin _ B B 
def r7.next{tb:fw}{k:Nat}{e:List Int}{c:Nat}{j f:H}(i:r7 k e c j f)(ht:tb.h 64=some ko)(o:okB e)(b:Int)(n:1<=b)(a:b<=100):
 ∃(d:Nat) (a:H),hl prog cx tb 64 [.ptr c 0 0 0,D b] f=some (D d,a)/\(d:Int)<b/\r7 (k+1) e c j a/\Sm c f a:=by
 obtain⟨d,a,m,p,t2,l⟩:=On ht i.g i.w.ok o b n a;exact⟨d,a,m,p,i.call l t2,l⟩
structure HI where
 (L:List Int) (b p:Nat) (k t:Int)
def zr(a:HI)(d:List T)(c:H):Prop:=d=[.ptr a.b 0 0 0,D a.k,D a.t]/\uD a.p a.L a.b c/\gH 0 c/\okB a.L/\0<=a.t/\a.t<4/\1<=a.k/\a.k<=23
def rQ(a:HI)(g:List T)(e:H)(f:T)(d:H):Prop:=∃c:Int,f= D c/\-1<=c/\(a.k=3\/a.k=4->0<=c/\c<5)/\uD a.p a.L a.b d/\Sm a.b e d
def aaj:(jr HI zr rQ).Ok prog cx 113:=by
 refine p9 (tb:=⟨pt [],ht [(64,ko)]⟩) iB gW (iP 8659206599 [] func113) (λ_ _=>5) (λS a e L=>by obtain⟨rfl,_⟩:=L;simp[f113]) ?_;rintro⟨m,b,j,c,f⟩ _ e ⟨rfl,w,r,y,M,N,I,K⟩ T z;simp only at w y M N I K;simp at z;obtain⟨n,o,p⟩:=z;have A:=w.tp.lt;have g:=r7.refl r.hr (w.eq (gu e b));have q:=λ{i:H} (g:r7 j m b (TI.hr e) i)=>g.next (tb:=⟨pt [],ht [(64,ko)]⟩) J y;have fin:∀(i:H) (d:Int),r7 (j+1) m b (TI.hr e) i->-1<=d->(c=3\/c=4->0<=d/\d<5)->xK e (D d) i (rQ ⟨m,b,j,c,f⟩ [.ptr b 0 0 0,D c,D f] e):=λi d g s R=>vq (g.le (Nat.le_succ j)) r A λt v=>⟨d,rfl,s,R,v,t⟩;by_cases E:c=3\/c=4
 ·obtain⟨k,F,h,C,l,u⟩:=q (g.cons (Z 1 0 [D 0,D 0,D 0,D 1,D 1,D 2,D 3,D 4])) 8 B B;have x:=(u.get e.size B).trans (by rw[dO,nh,aq rfl]);rcases E with rfl|rfl<;>simp[f113,n,o,p,h,x]<;>rcases(by omega:k=0\/k=1\/k=2\/k=3\/k=4\/k=5\/k=6\/k=7)with rfl|rfl|rfl|rfl|rfl|rfl|rfl|rfl<;>simp[x]<;>exact fin _ _ l B B
 by_cases P:c=6\/c=7
 ·obtain⟨k,F,h,C,l,u⟩:=q g 2 B B;rcases P with rfl|rfl<;>simp[f113,n,o,p,h]<;>exact fin _ _ l B B
 by_cases O:c=20\/c=21
 ·obtain⟨k,F,h,C,l,u⟩:=q g 3 B B;have a1:binop .add (D f) (D 1)=some (D (f+1)):=yT rfl B B;have a2:binop .add (D (f+1)) (D (k:Int))=some (D (f+1+k)):=yT rfl B B;have a3:=Dc (k:= .i64) (a:=f+1+k) (b:=4) B;have t0:=Int.tmod_nonneg 4 (show 0<=f+1+k by omega);rcases O with rfl|rfl<;>simp[f113,n,o,p,h,a1,a2,a3]<;>exact fin _ _ l B B
 have G:∀d:Int,-1<=d->xK e (D d) (TI.hr e) (rQ ⟨m,b,j,c,f⟩ [.ptr b 0 0 0,D c,D f] e):=λd s=>vq g r A λt v=>⟨d,rfl,s,λQ=>(E Q).elim,v,t⟩;rcases(by omega:c=1\/c=2\/c=5\/c=8\/c=9\/c=10\/c=11\/c=12\/c=13\/c=14\/c=15\/c=16\/c=17\/c=18\/c=19\/c=22\/c=23)with rfl|rfl|rfl|rfl|rfl|rfl|rfl|rfl|rfl|rfl|rfl|rfl|rfl|rfl|rfl|rfl|rfl<;>simp[f113,n,o,p]<;>exact G _ B 
structure HG where
 (L:List Int) (b p:Nat) (s:dZ) (k o:Int)
def zq(a:HG)(d:List T)(c:H):Prop:=d=[.ptr a.b 0 0 0,a.s.t,D a.k,D a.o]/\uD a.p a.L a.b c/\gH 0 c/\okB a.L/\(a.k=3->0<=a.o/\a.o<a.s.cells.length)/\1<=a.s.dU.length/\a.s.fk.dC.length<=98
def rO(a:HG)(g:List T)(d:H)(e:T)(c:H):Prop:=∃f:Int,e= D f/\uD a.p a.L a.b c/\Sm a.b d c
def WF{tb:fw}(ht:tb.p 162=some yo.ji){s:dZ}(c:s.fk.dC.length<=1000):∃a:List Int,a.length<=s.fk.dC.length/\rl prog cx tb 162 [s.t]=some (sl (a.map (T.int .i64))):=by
 obtain⟨_,⟨a,rfl,hl⟩,b⟩:=yo.use s c;exact⟨a,hl,b ht⟩
def aae:(jr HG zq rO).Ok prog cx 114:=by
 refine p9 (tb:=⟨pt [(162,yo.ji)],ht [(64,ko)]⟩) iB gW (iP 141296388017967 [] func114) (λ_ _=>5) (λi a g al=>by obtain⟨rfl,_⟩:=al;simp[f114]) ?_;rintro⟨u,h,q,s,b,m⟩ _ g ⟨rfl,I,E,K,y,W,an⟩ aE L;simp only at I K y W an;simp at L;obtain⟨c,d,e,f⟩:=L;have M:=I.tp.lt;have r:=(r7.refl E.hr (I.eq (gu g h))).cons (Z 7 0 [s.t]);have v:=r.next (tb:=⟨pt [(162,yo.ji)],ht [(64,ko)]⟩) J K;have o:∀k:Int,xK g (D k) _ (rO ⟨u,h,q,s,b,m⟩ [.ptr h 0 0 0,s.t,D b,D m] g):=λk=>vq r E M λF G=>⟨k,rfl,G,F⟩;have fin:∀(x:H) (k:Int),r7 (q+1) u h (TI.hr g) x->xK g (D k) x (rO ⟨u,h,q,s,b,m⟩ [.ptr h 0 0 0,s.t,D b,D m] g):=λx k r=>vq (r.le (Nat.le_succ q)) E M λF G=>⟨k,rfl,G,F⟩;have j:(h=g.size)=False:=dp;by_cases A:b=3
 ·obtain⟨C,Y⟩:∃C:Nat,m=C:=⟨m.toNat,by have:=y A;omega⟩;have ae:C<s.cells.length:=by have:=y A;omega
  subst A;subst Y;simp[f114,c,d,e,f,j,ae];exact o _
 by_cases ap:b=23
 ·subst ap;simp[f114,c,d,e,f,j,show 0<s.dU.length by omega];exact o _
 by_cases av:b=4\/b=22
 ·obtain⟨z,Q,n,N,p,P⟩:=v 3 B B;rcases av with rfl|rfl<;>simp[f114,c,d,e,f,j,n]<;>exact fin _ _ p
 by_cases aA:b=5
 ·obtain⟨z,Q,n,N,p,P⟩:=v 2 B B;subst aA;simp[f114,c,d,e,f,j,n];exact fin _ _ p
 have T:decide (b=3)=false:=aK B;have S:decide (b=23)=false:=aK B;have U:decide (b=4)=false:=aK B;have R:decide (b=22)=false:=aK B;have V:decide (b=5)=false:=aK B;obtain⟨O,hl,w⟩:=WF (tb:=⟨pt [(162,yo.ji)],ht [(64,ko)]⟩) J (s:=s) B;simp[f114,c,d,e,f,j,T,S,U,R,V,w];refine dV (λl=>?_) (λl=>?_)
 ·simp[c,d,e,f,j,w];refine dV (λl=>?_) (λl=>?_)
  ·obtain⟨z,Q,n,N,p,P⟩:=v O.length (by simp at l;omega) B;have X:z<O.length:=B;simp[c,d,e,f,n,X];exact fin _ _ p
  ·simp[c,d,e,f];exact o _
 simp[c,d,e,f];refine dV (λl=>?_) (λl=>?_)
 ·simp[c,d,e,f,j,w];exact o _
 ·simp[c,d,e,f];exact o _
section
def _root_.Go.TI.m9.copy{h a:H}{i w0 g q k:Nat}{c:List (T×aa (Nat×List T))}(f:m9 h i g q c)(p:gH 0 a)(n:a.get w0=some (Z g k [.agg (c.map (·.1))]))(o:∀e,Fp h i e->a.get e=h.get e):m9 a w0 g k c:=by
 refine⟨p,n,λl j=>?_,f.Un⟩;have:=f.Rk l j;unfold Xl at this|-;split at this
 ·exact this
 ·exact⟨this.1.mono λb m=>o b (f.A9 j m),this.2⟩
structure AM where
 (ver:Nat) (tx:Int) (c:Nat->T) (E:Nat->List T)
def AM.F(d:AM):List (T×aa (Nat×List T)):=[(d.c 0,some (2,d.E 0)),(D d.tx,none),(d.c 2,some (1,d.E 2)),(d.c 3,some (3,d.E 3)),(d.c 4,some (1,d.E 4)),(d.c 5,some (1,d.E 5)),(d.c 6,some (1,d.E 6))]
def AM.MQ(d:AM)(f:Nat)(e:List T):AM:=⟨d.ver,d.tx,d.c,λa=>if a=f then e else d.E a⟩
def YM(a:Nat):Nat:=if a=0 then 3 else if a=3\/a=6 then 4 else if a=4 then 5 else 1
def W9(a:Nat):Nat:=if a=0 then 2 else if a=3 then 3 else 1
def RvP(h:H)(w0:Nat)(y:H)(e:T):Prop:=e= dw\/∃(a:Nat) (c:Int),e= .arr a 0 0 1 false/\y.get a=some (Z 1 0 [D c])/\0<=c/\c<4/\¬Fp y w0 a/\h.size<=a
def RX(h:H)(w0:Nat)(y:H)(c:Nat)(a:T):Prop:=
 if c=0 then∃(g:Int) (f:T),a= .agg [D g,f]/\RvP h w0 y f
 else if c=2 then∃b,a= .bool b
 else if c=3 then∃i:dE,a=i.t
 else∃e:Int,a= D e/\(c=6->0<=e/\e<=4)
structure y8(L:List Int)(b:Nat)(h:H)(w0:Nat)(d:AM)(y:H):Prop where
 s:m9 y w0 7 d.ver d.F
 tw:r7 0 L b (TI.hr h) y
 fp:∀c,Fp y w0 c->h.size+2<=c
 rb:y.get (h.size+1)=some mD
 ln:∀k,(d.E k).length=YM k
 pr:∀k,∀e∈d.E k,RX h w0 y k e
variable {L:List Int}{b:Nat}{h y y2:H}{w0:Nat}{d:AM}
def y8.Mo(a:y8 L b h w0 d y):h.size+2<=y.size:=by have:=a.fp w0 (.inl rfl);have:=a.s.lt;omega
def y8.nfr(a:y8 L b h w0 d y):¬Fp y w0 (h.size+1):=λc=>by have:=a.fp _ c;omega
def RvP.step{f:T}(p:RvP h w0 y f)(l:∀a,h.size<=a->a<y.size->¬Fp y w0 a->y2.get a=y.get a/\¬Fp y2 w0 a):RvP h w0 y2 f:=by
 rcases p with o|⟨g,q,rfl,c,i,j,k,e⟩
 ·exact .inl o
 ·have⟨m,n⟩:=l g e (H.ej c) k;exact .inr ⟨g,q,rfl,m.trans c,i,j,n,e⟩
def RX.step{g:Nat}{f:T}(c:RX h w0 y g f)(i:∀a,h.size<=a->a<y.size->¬Fp y w0 a->y2.get a=y.get a/\¬Fp y2 w0 a):RX h w0 y2 g f:=by
 unfold RX at c|-;split
 ·rename_i e;rw[aq e]at c;obtain⟨j,m,k,l⟩:=c;exact⟨j,m,k,l.step i⟩
 ·rename_i e;rw[ao e]at c;exact c
def EM(e:Step w0 y y2):∀a,h.size<=a->a<y.size->¬Fp y w0 a->y2.get a=y.get a/\¬Fp y2 w0 a:=λa _ f c=>⟨e.get a f c,λg=>(e.fp a g).elim c λi=>by omega⟩
def y8.tape(c:y8 L b h w0 d y)(e:Sm b y y2)(n:uD 0 L b y2)(q:b<h.size):y8 L b h w0 d y2:=by
 have i:∀a,Fp y w0 a->a≠b:=λa f j=>by have:=c.fp a f;omega
 have g:=λa=>iL (e.get w0 (i w0 (.inl rfl))) a;exact⟨e.gY c.s λj=>i b j rfl,c.tw.call e n,λa f=>c.fp a (by rw[g]at f;exact f),(e.get _ B).trans c.rb,c.ln,λm o l=>(c.pr m o l).step λa p _ k=>⟨e.get a B,by rw[g];exact k⟩⟩
theorem y8.cons(a:y8 L b h w0 d y)(c:iI):y8 L b h w0 d (y.cons c):=by
 have e:=Step.cons a.s.ok a.s.lt c;exact⟨a.s.cons c,a.tw.cons c,λf i=>(e.fp f i).elim (a.fp f) λl=>by have:=a.Mo;omega,(e.get _ (by have:=a.Mo;omega) a.nfr).trans a.rb,a.ln,λk g j=>(a.pr k g j).step (EM e)⟩
def y8.st(e:y8 L b h w0 d y)(z:b<h.size)(a:Nat)(u:d.F[a]? =some (d.c a,some (W9 a,d.E a))){k p v:Nat}{q:Bool}{w:List T}(r:dM (d.c a)=some k)(t:y.get k=some ⟨W9 a,p,v,q,false,w⟩)(i:Nat)(g:T)
 (x:(d.MQ a ((d.E a).set i g)).F=d.F.set a (d.c a,some (W9 a,(d.E a).set i g))) (G:RX h w0 y a g):y8 L b h w0 (d.MQ a ((d.E a).set i g)) (dT y k ⟨W9 a,p,v+1,q,false,w.set i g⟩):=by
 obtain⟨n,sl⟩:=e.s.elem a u r t i g;have C:=e.s.A9 (ax u) r;refine⟨by rw[x];exact sl,e.tw.put t (by have:=e.fp k C;simp;omega) (by simpa using z) _,λo A=>(n.fp o A).elim (e.fp o) λl=>by have:=e.Mo;omega,(n.get _ (by have:=e.Mo;omega) e.nfr).trans e.rb,λf=>?_,λf m j=>?_⟩
 ·show(if f=a then _ else _:List T).length=_;split
  ·rename_i l;subst l;rw[cG];exact e.ln f
  ·exact e.ln f
 ·have j:m∈(if f=a then(d.E a).set i g else d.E f):=j;refine RX.step ?_ (EM n);split at j
  ·rename_i l;subst l;rcases bZ j with I|rfl
   ·exact e.pr _ m I
   ·exact G
  ·exact e.pr f m j
def y8.tx(a:y8 L b h w0 d y)(j:b<h.size)(e:Int):y8 L b h w0 ⟨d.ver+1,e,d.c,d.E⟩ (dT y w0 ⟨7,0,d.ver+1,true,false,[.agg [d.c 0,D e,d.c 2,d.c 3,d.c 4,d.c 5,d.c 6]]⟩):=by
 have⟨f,sl⟩:=a.s.aeE 1 (v':= D e) J ⟨_,rfl⟩ _ rfl;exact⟨sl,a.tw.put a.s.get (by have:=a.fp w0 (.inl rfl);simp;omega) (by simpa using j) _,λg k=>(f.fp g k).elim (a.fp g) λn=>by have:=a.Mo;omega,(f.get _ (by have:=a.Mo;omega) a.nfr).trans a.rb,a.ln,λm i l=>(a.pr m i l).step (EM f)⟩
def uc{i:Type}{f:i->T}{P:i->Prop}:∀{e:List T},(∀c∈e,∃a,c=f a/\P a)->∃g:List i,e=g.map f/\∀a∈g,P a:=by
 intro e;induction e with
 |nil=>intro _;exact⟨[],rfl,J⟩
 |cons c e m=>
  intro h;obtain⟨a,rfl,l⟩:=h c J;obtain⟨g,rfl,j⟩:=m λc k=>h c (by simp[k]);exact⟨a::g,rfl,by simpa[l]using j⟩
def y8.ld(i:y8 L b h w0 d y)(a:Nat)(r:d.F[a]? =some (d.c a,some (W9 a,d.E a))){te:Ty}(u:te.size=W9 a){j:Nat}(t:j<YM a):∃e f l k g m,dM (d.c a)=some e/\kw y te (d.c a) j=some (.val (.ptr e f j 0) y)/\y.get e=some ⟨W9 a,f,l,k,false,g⟩/\g[j]? =some m/\RX h w0 y a m:=by
 have hE:j<(d.E a).length:=by rw[i.ln];exact t
 have⟨e,f,l,k,g,q,n,p,o⟩:=(i.s.gr a r).IG (te:=te) u (i:=j) hE;exact⟨e,f,l,k,g,_,q,n,p,o,i.pr a _ (aD hE)⟩
