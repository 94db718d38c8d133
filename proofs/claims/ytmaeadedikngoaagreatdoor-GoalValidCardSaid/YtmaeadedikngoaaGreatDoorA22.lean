/- Texts X02 to X02. -/
import Derived.Test.YtmaeadedikngoaaGreatDoorA21
set_option linter.unusedVariables false
set_option linter.unusedSimpArgs false
set_option linter.defProp false
set_option maxRecDepth 100000
set_option maxHeartbeats 8000000
namespace Go.Proofs.YtmaeadedikngoaaGreatDoor
noncomputable section
open Go Go.TI
attribute [-simp] List.map_take List.map_drop List.map_append fj eG dY Bool.not_or Bool.not_and
attribute [simp] fh eJ
def uW:List Int:=[3,3,3,3,3,4,4,4,4,4,5,5,5,6,6,6,7,7,7,8,9,10,11,12,13,14,14,15,16,16,17,17,18,18,19,20,1,1,2,21,22,23,23]
def r7:f7:=⟨Unit,λ_=>[],λ_=>True,λ_=>sl (uW.map (T.int .i64)),λ_ _ _=>rfl⟩
def QF:r7.Ok Tryz.prog cx 99:=by
 refine gH (tb:=⟨pt [],ht []⟩) ei eg (iL 1 [] Tryz.func99) (λ_=>5) (by simp[r7]) (by simp[r7,Tryz.f99]) ?_;rintro _ _ b a;simp[r7]at a|-;simp[Tryz.f99,fW,uW]
def _root_.Go.TI.Xt.ED{d b:H}{f g:T}{e:Nat}{c:List T}(a:Xt d f e c g b):gu 0 b:=⟨a.2.2.2.hp,a.2.2.2.low,aw _⟩
def _root_.Go.TI.Xt.RH{i e:H}{j k:T}{d:List Int}(c:Xt i j 1 (d.map (T.int .i64)) k e)(g:Int)(m:d.length<=1000000):∃a b,iK cx (e.cons (dy 1 0 [dw g])) 38 38 k (.arr e.size 0 0 1 false)=some (.val a b)/\a.gD=true/\a.cells=[a]/\Xt i j 1 ((d++[g]).map (T.int .i64)) a b:=by
 obtain⟨a,b,l,h⟩:=c.1.mM (cx:=cx) (f:=T.int .i64) c.ED kG rfl nM rfl dp (λ_=>rfl) g dq;exact⟨a,b,l,h.1.gD,h.1.cells,c.trans h⟩
def xO:mU Tryz.prog cx 150 (λa:dW=>[a.t]) (λa=>a.fx.dB.length<=1000) (λa A=>∃v:List Int,A=sl (v.map (T.int .i64))/\v.length<=a.fx.dB.length):=by
 refine iZ (tb:=⟨pt [],ht []⟩) ei eg (iL 134975 [] Tryz.func150) (λa=>a.fx.dB.length+5) (λC b e=>by simp at e;exact dW.inj e) dp (by simp[Tryz.f150]) ?_;rintro a hl d r;simp at r;simp[Tryz.f150,r];generalize q:H.cons hE _=m;have x:m.get 0=some (dy 7 0 [a.t]):=by subst q;simp
 have o:gu 1 m:=by subst q;exact⟨dp,dp,dp⟩
 refine fc a.fx.dB.length dj (λi d e=>dz d 1 (.ptr 0 0 0 0)/\dz d 8 (sl (a.fx.dB.map dD.t))/\dz d 9 (dw a.fx.dB.length)/\dz d 10 (dw i)/\∃(l:T) (f:List Int),dz d 3 l/\Xt m dx 1 (f.map (T.int .i64)) l e/\f.length<=i) ?_ ?_ dj ⟨dp,dp,dp,dp,dx,[],dp,Xt.refl (Gr.nil _ _) ⟨o.hp,o.low,aw _⟩,au _⟩
 ·rintro i d e z s ⟨n,k,h,g,l,f,j,c,u⟩;have K:=o.sz;have D:=(c.2.1 0 dj dp).trans x;have w:gu 1 e:=⟨c.2.2.2.hp,c.2.2.2.low,by have:=c.2.2.2.sz;omega⟩;have F:=w.ne (b:=0) dj;simp[k,h,g,z,w.low];refine dU (λy=> ?_) (λy=> ?_)
  ·obtain⟨J,E,p,G,I,B⟩:=(c.cons (dy 3 1 [a.fx.dB[i].t])).RH i dj;rw[size_cons]at p;simp[n,j,k,h,g,s,p];exact⟨_,B,dq⟩
  ·simp[n,j,k,h,g,s];exact⟨_,c.cons _,dj⟩
 ·rintro d e ⟨n,k,h,g,l,f,j,c,u⟩;simp[j,h,g,c.1.gD,c.1.ry dp,c.2.2.2.hp];exact⟨f,rfl,u⟩
structure An where
 (L:List Int) (b p:Nat) (v:T) (ns:List Int)
def tV(a:An)(d:List T)(c:H):Prop:=d=[.ptr a.b 0 0 0,a.v]/\Gr c a.v 1 (a.ns.map (T.int .i64))/\dL a.v≠some a.b/\uD a.p a.L a.b c/\gu 0 c/\okB a.L/\a.ns.length<=1000
def sY(a:An)(g:List T)(e:H)(f:T)(c:H):Prop:=∃d:List Int,f=sl (d.map (T.int .i64))/\d.length<=a.ns.length/\uD a.p a.L a.b c/\Sm a.b e c
def rV.xt{m:Nat}{k:List Int}{b:Nat}{c e f:H}{n t:T}{s:Nat}{o:List T}(d:rV m k b c e)(j:Xt e n s o t f)(q:∀a,dL n=some a->c.size<=a)(l:b<c.size):rV m k b c f:=by
 have u:=d.w.size;have i:∀a,a<c.size->f.get a=e.get a:=λa h=>j.2.1 a dj λr=>by have:=q a r;omega
 exact⟨⟨j.ED,by have:=j.2.2.2.sz;omega,λa h p=>(i a h).trans (d.w.get a h p),d.w.tp.eq (i b l)⟩,d.g.eq (i b l)⟩
def _root_.Go.TI.FT.abJ{c:H}{o:Nat->Prop}{g p:Nat}(l:p<=12)(s:∀a,o a->g<=a){b n:T}(ft:FT c o p b n)(r:∀i,b≠ .agg i)(w:∀i,b≠ .tuple i):∃k,iT c g b=some k/\cn k=n:=by
 have q:=(ft.deep l).fzN s;have u:(dJ (ir c 0 b) λb=>some (cn b))=some n:=(ft.deep l).fz;have v:iT c g b=ir c 0 b:=by
  rcases ft.deep l with⟨z,m,rfl⟩|⟨a,d,h,f,e,C,D,rfl,y,E,x,rfl⟩|⟨i,B,rfl,x,rfl⟩
  ·cases b<;>first|exact(r _ rfl).elim|exact q|(simp[jE]at z)|exact(w _ rfl).elim
  ·have m:∀j,ir c j (.arr a d h f e)=(Bool.casesOn (Nat.ble j a) (some (.arr a d h f e)) (TI.freeze c j 12 (.arr a d h f e)):aa T):=λj=>rfl;show ir c g (.arr a d h f e)=ir c 0 (.arr a d h f e);rw[m,m,show Nat.ble g a=true from bW (s a y),show Nat.ble 0 a=true from bW (aw a),q]
  ·exact absurd rfl (r _)
 rw[<-v]at u;obtain⟨k,A,t⟩:=dA.1 u;simp only[ar]at t;exact⟨k,A,t⟩
def wa{c g h:Type}{d:g->h->Prop}{e:c->g}{f:c->h}{a:List c}(i:∀b,d (e b) (f b)):io d (a.map e) (a.map f):=by
 induction a with
 |nil=>exact .nil
 |cons b a j=>exact .cons (i b) j
def _root_.Go.TI.Gr.X7{l:Type}{a:l->T}{b:H}{h:T}{s g d:Nat}{j:List l}(f:Gr b h s (j.map a))(v:d<=11)(q:∀i,dL h=some i->g<=i)(p:∀c b V,FT b V d (a c) (a c)):∃k,iT b g h=some k/\cn k=sl (j.map a):=
 (f.ft (V:=λe=>g<=e) (d:=d) q (wa λc=>p c _ _)).abJ dj (λ_ r=>r) (λm=>by rcases f with⟨rfl,_⟩|⟨e,n,t,o,u,rfl,_⟩<;>simp) (λm=>by rcases f with⟨rfl,_⟩|⟨e,n,t,o,u,rfl,_⟩<;>simp)
def Ue:(jp An tV sY).Ok Tryz.prog cx 102:=by
 refine pW (tb:=⟨pt [],ht [(63,ka)]⟩) ei eg (iL 16781299 [] Tryz.func102) (λ_ _=>1005) (λi a o av=>by obtain⟨rfl,_⟩:=av;simp[Tryz.f102]) ?_;rintro⟨S,r,Q,E,y⟩ _ o ⟨rfl,v,O,D,P,K,hl⟩ e L;simp only at v O D K hl;simp at L;obtain⟨h,f⟩:=L;have M:=D.tp.lt;simp[Tryz.f102,f,v.len];refine fc y.length dj (λi e s=>dz e 0 (.ptr r 0 0 0)/\dz e 1 E/\dz e 8 E/\dz e 9 (dw y.length)/\dz e 10 (dw i)/\rV Q S r (TI.hr o) s/\∃(l:T) (n:List Int),dz e 5 l/\Gr s l 1 (n.map (T.int .i64))/\(∀b,dL l=some b->o.size<=b)/\n.length<=i) ?_ ?_ dj ⟨by simp[h],by simp[f],dp,dp,dp,rV.refl P.hr (D.eq (fX o r)),_,[],dp,Gr.nil _ _,dp,au _⟩
 ·rintro i e s N C ⟨h,f,u,q,p,m,l,n,t,go,j,an⟩;have J:Gr s E 1 (y.map (T.int .i64)):=v.mono λb c=>by
   obtain⟨_,_,_,_,z,_⟩:=v.box c;exact(m.w.get b (H.ej z) λB=>O (by rw[<-B];exact c)).trans (fX o b)
  obtain⟨aN,aX,bn,a6,bs,_,X,Z,G⟩:=J.ID (te:=FI) rfl (i:=i) (by simpa using N);have W:binop .add (dw (i:Int)) (dw 3)=some (dw ((i:Int)+3)):=gY dj dj;simp at G;simp[h,f,u,q,p,N,X,Z,G,W,J.len];obtain⟨k,ae,Y,a8,t2,R⟩:=N9 (tb:=⟨pt [],ht [(63,ka)]⟩) dp m.g m.w.ok K 2 dj dj;refine VO (λc=> ?_) (λc=> ?_)
  ·simp[Y,c];refine⟨_,_,⟨rfl,rfl⟩,?_⟩;have A:=(m.call R t2).le (Nat.le_succ Q);have ap:dL l≠some r:=λz=>by have:=j r z;omega
   have I:Gr ae l 1 (n.map (T.int .i64)):=go.mono λb c=>R.get b λB=>ap (by rw[<-B];exact c);simp;refine dU (λal=> ?_) (λal=> ?_)
   ·obtain⟨bl,a7,U,bi,bk,F⟩:=(Xt.refl I A.w.ok).RH y[i] dj;simp[h,f,t,u,q,p,U,C];exact⟨A.xt F j M,_,F.1,λb c=>(F.2.2.1 b c).elim (j b) λz=>by have:=A.w.size;simp at this;omega,dq⟩
   ·simp[h,f,t,u,q,p,C];exact⟨A,_,I,j,dj⟩
  ·simp[c];refine⟨_,_,⟨rfl,rfl⟩,?_⟩;simp[h,f,t,u,q,p,C];exact⟨m,_,go,j,dj⟩
 ·rintro e s ⟨h,f,u,q,p,m,l,n,t,go,j,an⟩;simp[t,q,p];exact m.cut P M (go.X7 (d:=1) dj j λx o V=>fR ..) λaA aE=>⟨n,rfl,dt,aE,aA⟩
end
end Go.Proofs.YtmaeadedikngoaaGreatDoor
