/- Texts X02 to X02. -/
import Derived.Test.YtmaeadedikngoaaGreatDoorA19
set_option linter.all false
set_option maxRecDepth 100000
set_option maxHeartbeats 8000000
namespace Go.Proofs.YtmaeadedikngoaaGreatDoor
noncomputable section
open Go Go.TI
attribute [-simp] List.map_take List.map_drop List.map_append fH fh ej Bool.not_or Bool.not_and
attribute [simp] fG fj
def vV:List Int:=[3,3,3,3,3,4,4,4,4,4,5,5,5,6,6,6,7,7,7,8,9,10,11,12,13,14,14,15,16,16,17,17,18,18,19,20,1,1,2,21,22,23,23]
def tg:iq:=⟨Unit,λ_=>[],λ_=>True,λ_=>sl (vV.map (T.int .i64)),λ_ _ _=>rfl⟩
def RX:tg.Ok Tryz.prog cx 99:=by
 refine iC (tb:=⟨pt [],ht []⟩) fc fa (je 1 [] Tryz.func99) (λ_=>5) (by simp[tg]) (by simp[tg,Tryz.f99]) ?_;rintro _ _ b a;simp[tg]at a|-;simp[Tryz.f99,gH,vV]
def _root_.Go.TI.Xt.Fo{d b:H}{f g:T}{e:Nat}{c:List T}(a:Xt d f e c g b):ij 0 b:=⟨a.2.2.2.hp,a.2.2.2.low,aw _⟩
def _root_.Go.TI.Xt.Ti{i e:H}{j k:T}{d:List Int}(c:Xt i j 1 (d.map (T.int .i64)) k e)(g:Int)(m:d.length<=1000000):∃a b,iM cx (e.cons (dI 1 0 [dG g])) 38 38 k (.arr e.size 0 0 1 false)=some (.val a b)/\a.im=true/\a.cells=[a]/\Xt i j 1 ((d++[g]).map (T.int .i64)) a b:=by
 obtain⟨a,b,l,h⟩:=c.1.nq (cx:=cx) (f:=T.int .i64) c.Fo kz rfl mM rfl dC (λ_=>rfl) g dD;exact⟨a,b,l,h.1.im,h.1.cells,c.trans h⟩
def yy:nK Tryz.prog cx 150 (λa:eG=>[a.t]) (λa=>a.fO.dM.length<=1000) (λa A=>∃v:List Int,A=sl (v.map (T.int .i64))/\v.length<=a.fO.dM.length):=by
 refine ju (tb:=⟨pt [],ht []⟩) fc fa (je 134975 [] Tryz.func150) (λa=>a.fO.dM.length+5) (λC b e=>by simp at e;exact eG.inj e) dC (by simp[Tryz.f150]) ?_;rintro a hl d r;simp at r;simp[Tryz.f150,r];generalize q:H.cons hE _=m;have x:m.get 0=some (dI 7 0 [a.t]):=by subst q;simp
 have o:ij 1 m:=by subst q;exact⟨dC,dC,dC⟩
 refine fI a.fO.dM.length dB (λi d e=>dJ d 1 (.ptr 0 0 0 0)/\dJ d 8 (sl (a.fO.dM.map dP.t))/\dJ d 9 (dG a.fO.dM.length)/\dJ d 10 (dG i)/\∃(l:T) (f:List Int),dJ d 3 l/\Xt m dH 1 (f.map (T.int .i64)) l e/\f.length<=i) ?_ ?_ dB ⟨dC,dC,dC,dC,dH,[],dC,Xt.refl (Gr.nil _ _) ⟨o.hp,o.low,aw _⟩,au _⟩
 ·rintro i d e z s ⟨n,k,h,g,l,f,j,c,u⟩;have K:=o.sz;have D:=(c.2.1 0 dB dC).trans x;have w:ij 1 e:=⟨c.2.2.2.hp,c.2.2.2.low,by have:=c.2.2.2.sz;omega⟩;have F:=w.ne (b:=0) dB;simp[k,h,g,z,w.low];refine em (λy=> ?_) (λy=> ?_)
  ·obtain⟨J,E,p,G,I,B⟩:=(c.cons (dI 3 1 [a.fO.dM[i].t])).Ti i dB;rw[size_cons]at p;simp[n,j,k,h,g,s,p];exact⟨_,B,dD⟩
  ·simp[n,j,k,h,g,s];exact⟨_,c.cons _,dB⟩
 ·rintro d e ⟨n,k,h,g,l,f,j,c,u⟩;simp[j,h,g,c.1.im,c.1.rn dC,c.2.2.2.hp];exact⟨f,rfl,u⟩
structure AU where
 (L:List Int) (b p:Nat) (v:T) (ns:List Int)
def uD(a:AU)(d:List T)(c:H):Prop:=d=[.ptr a.b 0 0 0,a.v]/\Gr c a.v 1 (a.ns.map (T.int .i64))/\dU a.v≠some a.b/\vm a.p a.L a.b c/\ij 0 c/\okB a.L/\a.ns.length<=1000
def t8(a:AU)(g:List T)(e:H)(f:T)(c:H):Prop:=∃d:List Int,f=sl (d.map (T.int .i64))/\d.length<=a.ns.length/\vm a.p a.L a.b c/\Sm a.b e c
def sY.xt{m:Nat}{k:List Int}{b:Nat}{c e f:H}{n t:T}{s:Nat}{o:List T}(d:sY m k b c e)(j:Xt e n s o t f)(q:∀a,dU n=some a->c.size<=a)(l:b<c.size):sY m k b c f:=by
 have u:=d.w.size;have i:∀a,a<c.size->f.get a=e.get a:=λa h=>j.2.1 a dB λr=>by have:=q a r;omega
 exact⟨⟨j.Fo,by have:=j.2.2.2.sz;omega,λa h p=>(i a h).trans (d.w.get a h p),d.w.tp.eq (i b l)⟩,d.g.eq (i b l)⟩
def _root_.Go.TI.FT.adp{c:H}{o:Nat->Prop}{g p:Nat}(l:p<=12)(s:∀a,o a->g<=a){b n:T}(ft:FT c o p b n)(r:∀i,b≠ .agg i)(w:∀i,b≠ .tuple i):∃k,jl c g b=some k/\cn k=n:=by
 have q:=(ft.deep l).fzN s;have u:(dV (iJ c 0 b) λb=>some (cn b))=some n:=(ft.deep l).fz;have v:jl c g b=iJ c 0 b:=by
  rcases ft.deep l with⟨z,m,rfl⟩|⟨a,d,h,f,e,C,D,rfl,y,E,x,rfl⟩|⟨i,B,rfl,x,rfl⟩
  ·cases b<;>first|exact(r _ rfl).elim|exact q|(simp[jW]at z)|exact(w _ rfl).elim
  ·have m:∀j,iJ c j (.arr a d h f e)=(Bool.casesOn (Nat.ble j a) (some (.arr a d h f e)) (TI.freeze c j 12 (.arr a d h f e)):aa T):=λj=>rfl;show iJ c g (.arr a d h f e)=iJ c 0 (.arr a d h f e);rw[m,m,show Nat.ble g a=true from cd (s a y),show Nat.ble 0 a=true from cd (aw a),q]
  ·exact absurd rfl (r _)
 rw[<-v]at u;obtain⟨k,A,t⟩:=dL.1 u;simp only[ar]at t;exact⟨k,A,t⟩
def wP{c g h:Type}{d:g->h->Prop}{e:c->g}{f:c->h}{a:List c}(i:∀b,d (e b) (f b)):iG d (a.map e) (a.map f):=by
 induction a with
 |nil=>exact .nil
 |cons b a j=>exact .cons (i b) j
def _root_.Go.TI.Gr.ZF{l:Type}{a:l->T}{b:H}{h:T}{s g d:Nat}{j:List l}(f:Gr b h s (j.map a))(v:d<=11)(q:∀i,dU h=some i->g<=i)(p:∀c b V,FT b V d (a c) (a c)):∃k,jl b g h=some k/\cn k=sl (j.map a):=
 (f.ft (V:=λe=>g<=e) (d:=d) q (wP λc=>p c _ _)).adp dB (λ_ r=>r) (λm=>by rcases f with⟨rfl,_⟩|⟨e,n,t,o,u,rfl,_⟩<;>simp) (λm=>by rcases f with⟨rfl,_⟩|⟨e,n,t,o,u,rfl,_⟩<;>simp)
def VB:(jF AU uD t8).Ok Tryz.prog cx 102:=by
 refine qJ (tb:=⟨pt [],ht [(63,kE)]⟩) fc fa (je 16781299 [] Tryz.func102) (λ_ _=>1005) (λi a o av=>by obtain⟨rfl,_⟩:=av;simp[Tryz.f102]) ?_;rintro⟨S,r,Q,E,y⟩ _ o ⟨rfl,v,O,D,P,K,hl⟩ e L;simp only at v O D K hl;simp at L;obtain⟨h,f⟩:=L;have M:=D.tp.lt;simp[Tryz.f102,f,v.len];refine fI y.length dB (λi e s=>dJ e 0 (.ptr r 0 0 0)/\dJ e 1 E/\dJ e 8 E/\dJ e 9 (dG y.length)/\dJ e 10 (dG i)/\sY Q S r (TI.hr o) s/\∃(l:T) (n:List Int),dJ e 5 l/\Gr s l 1 (n.map (T.int .i64))/\(∀b,dU l=some b->o.size<=b)/\n.length<=i) ?_ ?_ dB ⟨by simp[h],by simp[f],dC,dC,dC,sY.refl P.hr (D.eq (gF o r)),_,[],dC,Gr.nil _ _,dC,au _⟩
 ·rintro i e s N C ⟨h,f,u,q,p,m,l,n,t,go,j,an⟩;have J:Gr s E 1 (y.map (T.int .i64)):=v.mono λb c=>by
   obtain⟨_,_,_,_,z,_⟩:=v.box c;exact(m.w.get b (H.eJ z) λB=>O (by rw[<-B];exact c)).trans (gF o b)
  obtain⟨aN,aX,bp,a6,bs,_,X,Z,G⟩:=J.JG (te:=Ed) rfl (i:=i) (by simpa using N);have W:binop .add (dG (i:Int)) (dG 3)=some (dG ((i:Int)+3)):=iy dB dB;simp at G;simp[h,f,u,q,p,N,X,Z,G,W,J.len];obtain⟨k,ae,Y,a8,t2,R⟩:=Pq (tb:=⟨pt [],ht [(63,kE)]⟩) dC m.g m.w.ok K 2 dB dB;refine Xx (λc=> ?_) (λc=> ?_)
  ·simp[Y,c];refine⟨_,_,⟨rfl,rfl⟩,?_⟩;have A:=(m.call R t2).le (Nat.le_succ Q);have ap:dU l≠some r:=λz=>by have:=j r z;omega
   have I:Gr ae l 1 (n.map (T.int .i64)):=go.mono λb c=>R.get b λB=>ap (by rw[<-B];exact c);simp;refine em (λal=> ?_) (λal=> ?_)
   ·obtain⟨bn,a7,U,bi,bk,F⟩:=(Xt.refl I A.w.ok).Ti y[i] dB;simp[h,f,t,u,q,p,U,C];exact⟨A.xt F j M,_,F.1,λb c=>(F.2.2.1 b c).elim (j b) λz=>by have:=A.w.size;simp at this;omega,dD⟩
   ·simp[h,f,t,u,q,p,C];exact⟨A,_,I,j,dB⟩
  ·simp[c];refine⟨_,_,⟨rfl,rfl⟩,?_⟩;simp[h,f,t,u,q,p,C];exact⟨m,_,go,j,dB⟩
 ·rintro e s ⟨h,f,u,q,p,m,l,n,t,go,j,an⟩;simp[t,q,p];exact m.cut P M (go.ZF (d:=1) dB j λx o V=>f9 ..) λaA aE=>⟨n,rfl,dE,aE,aA⟩
end
end Go.Proofs.YtmaeadedikngoaaGreatDoor
