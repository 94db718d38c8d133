/- Texts X02 to X02. -/
import Derived.Test.YtmaeadedikngoaaGreatDoorA21
set_option linter.all false
set_option maxRecDepth 100000
set_option maxHeartbeats 8000000
namespace Go.Proofs.YtmaeadedikngoaaGreatDoor
noncomputable section
open Go Go.TI
attribute [-simp] List.map_take List.map_drop List.map_append fw eQ dZ Bool.not_or Bool.not_and
attribute [simp] fq eY
def u5:List Int:=[3,3,3,3,3,4,4,4,4,4,5,5,5,6,6,6,7,7,7,8,9,10,11,12,13,14,14,15,16,16,17,17,18,18,19,20,1,1,2,21,22,23,23]
def sj:gu:=⟨Unit,λ_=>[],λ_=>True,λ_=>sl (u5.map (T.int .i64)),λ_ _ _=>rfl⟩
def QR:sj.Ok Tryz.prog cx 99:=by
 refine gX (tb:=⟨pt [],ht []⟩) ew ej (iQ 1 [] Tryz.func99) (λ_=>5) (by simp[sj]) (by simp[sj,Tryz.f99]) ?_;rintro _ _ b a;simp[sj]at a|-;simp[Tryz.f99,f7,u5]
def _root_.Go.TI.Xt.Eo{d b:H}{f g:T}{e:Nat}{c:List T}(a:Xt d f e c g b):gF 0 b:=⟨a.2.2.2.hp,a.2.2.2.low,aw _⟩
def _root_.Go.TI.Xt.RT{i e:H}{j k:T}{d:List Int}(c:Xt i j 1 (d.map (T.int .i64)) k e)(g:Int)(m:d.length<=1000000):∃a b,iO cx (e.cons (dA 1 0 [dy g])) 38 38 k (.arr e.size 0 0 1 false)=some (.val a b)/\a.gJ=true/\a.cells=[a]/\Xt i j 1 ((d++[g]).map (T.int .i64)) a b:=by
 obtain⟨a,b,l,h⟩:=c.1.mJ (cx:=cx) (f:=T.int .i64) c.Eo kK rfl oq rfl dt (λ_=>rfl) g du;exact⟨a,b,l,h.1.gJ,h.1.cells,c.trans h⟩
def xW:m6 Tryz.prog cx 150 (λa:d8=>[a.t]) (λa=>a.fF.dE.length<=1000) (λa A=>∃v:List Int,A=sl (v.map (T.int .i64))/\v.length<=a.fF.dE.length):=by
 refine jd (tb:=⟨pt [],ht []⟩) ew ej (iQ 134975 [] Tryz.func150) (λa=>a.fF.dE.length+5) (λC b e=>by simp at e;exact d8.inj e) dt (by simp[Tryz.f150]) ?_;rintro a hl d r;simp at r;simp[Tryz.f150,r];generalize q:H.cons hE _=m;have x:m.get 0=some (dA 7 0 [a.t]):=by subst q;simp
 have o:gF 1 m:=by subst q;exact⟨dt,dt,dt⟩
 refine fh a.fF.dE.length dq (λi d e=>dB d 1 (.ptr 0 0 0 0)/\dB d 8 (sl (a.fF.dE.map dG.t))/\dB d 9 (dy a.fF.dE.length)/\dB d 10 (dy i)/\∃(l:T) (f:List Int),dB d 3 l/\Xt m dz 1 (f.map (T.int .i64)) l e/\f.length<=i) ?_ ?_ dq ⟨dt,dt,dt,dt,dz,[],dt,Xt.refl (Gr.nil _ _) ⟨o.hp,o.low,aw _⟩,au _⟩
 ·rintro i d e z s ⟨n,k,h,g,l,f,j,c,u⟩;have K:=o.sz;have D:=(c.2.1 0 dq dt).trans x;have w:gF 1 e:=⟨c.2.2.2.hp,c.2.2.2.low,by have:=c.2.2.2.sz;omega⟩;have F:=w.ne (b:=0) dq;simp[k,h,g,z,w.low];refine dW (λy=> ?_) (λy=> ?_)
  ·obtain⟨J,E,p,G,I,B⟩:=(c.cons (dA 3 1 [a.fF.dE[i].t])).RT i dq;rw[size_cons]at p;simp[n,j,k,h,g,s,p];exact⟨_,B,du⟩
  ·simp[n,j,k,h,g,s];exact⟨_,c.cons _,dq⟩
 ·rintro d e ⟨n,k,h,g,l,f,j,c,u⟩;simp[j,h,g,c.1.gJ,c.1.rF dt,c.2.2.2.hp];exact⟨f,rfl,u⟩
structure Av where
 (L:List Int) (b p:Nat) (v:T) (ns:List Int)
def uc(a:Av)(d:List T)(c:H):Prop:=d=[.ptr a.b 0 0 0,a.v]/\Gr c a.v 1 (a.ns.map (T.int .i64))/\dO a.v≠some a.b/\uJ a.p a.L a.b c/\gF 0 c/\okB a.L/\a.ns.length<=1000
def tk(a:Av)(g:List T)(e:H)(f:T)(c:H):Prop:=∃d:List Int,f=sl (d.map (T.int .i64))/\d.length<=a.ns.length/\uJ a.p a.L a.b c/\Sm a.b e c
def r9.xt{m:Nat}{k:List Int}{b:Nat}{c e f:H}{n t:T}{s:Nat}{o:List T}(d:r9 m k b c e)(j:Xt e n s o t f)(q:∀a,dO n=some a->c.size<=a)(l:b<c.size):r9 m k b c f:=by
 have u:=d.w.size;have i:∀a,a<c.size->f.get a=e.get a:=λa h=>j.2.1 a dq λr=>by have:=q a r;omega
 exact⟨⟨j.Eo,by have:=j.2.2.2.sz;omega,λa h p=>(i a h).trans (d.w.get a h p),d.w.tp.eq (i b l)⟩,d.g.eq (i b l)⟩
def _root_.Go.TI.FT.abT{c:H}{o:Nat->Prop}{g p:Nat}(l:p<=12)(s:∀a,o a->g<=a){b n:T}(ft:FT c o p b n)(r:∀i,b≠ .agg i)(w:∀i,b≠ .tuple i):∃k,iX c g b=some k/\cn k=n:=by
 have q:=(ft.deep l).fzN s;have u:(dM (iy c 0 b) λb=>some (cn b))=some n:=(ft.deep l).fz;have v:iX c g b=iy c 0 b:=by
  rcases ft.deep l with⟨z,m,rfl⟩|⟨a,d,h,f,e,C,D,rfl,y,E,x,rfl⟩|⟨i,B,rfl,x,rfl⟩
  ·cases b<;>first|exact(r _ rfl).elim|exact q|(simp[jI]at z)|exact(w _ rfl).elim
  ·have m:∀j,iy c j (.arr a d h f e)=(Bool.casesOn (Nat.ble j a) (some (.arr a d h f e)) (TI.freeze c j 12 (.arr a d h f e)):aa T):=λj=>rfl;show iy c g (.arr a d h f e)=iy c 0 (.arr a d h f e);rw[m,m,show Nat.ble g a=true from bW (s a y),show Nat.ble 0 a=true from bW (aw a),q]
  ·exact absurd rfl (r _)
 rw[<-v]at u;obtain⟨k,A,t⟩:=dD.1 u;simp only[ar]at t;exact⟨k,A,t⟩
def wn{c g h:Type}{d:g->h->Prop}{e:c->g}{f:c->h}{a:List c}(i:∀b,d (e b) (f b)):iv d (a.map e) (a.map f):=by
 induction a with
 |nil=>exact .nil
 |cons b a j=>exact .cons (i b) j
def _root_.Go.TI.Gr.Yh{l:Type}{a:l->T}{b:H}{h:T}{s g d:Nat}{j:List l}(f:Gr b h s (j.map a))(v:d<=11)(q:∀i,dO h=some i->g<=i)(p:∀c b V,FT b V d (a c) (a c)):∃k,iX b g h=some k/\cn k=sl (j.map a):=
 (f.ft (V:=λe=>g<=e) (d:=d) q (wn λc=>p c _ _)).abT dq (λ_ r=>r) (λm=>by rcases f with⟨rfl,_⟩|⟨e,n,t,o,u,rfl,_⟩<;>simp) (λm=>by rcases f with⟨rfl,_⟩|⟨e,n,t,o,u,rfl,_⟩<;>simp)
def Uq:(js Av uc tk).Ok Tryz.prog cx 102:=by
 refine p7 (tb:=⟨pt [],ht [(63,kh)]⟩) ew ej (iQ 16781299 [] Tryz.func102) (λ_ _=>1005) (λi a o av=>by obtain⟨rfl,_⟩:=av;simp[Tryz.f102]) ?_;rintro⟨S,r,Q,E,y⟩ _ o ⟨rfl,v,O,D,P,K,hl⟩ e L;simp only at v O D K hl;simp at L;obtain⟨h,f⟩:=L;have M:=D.tp.lt;simp[Tryz.f102,f,v.len];refine fh y.length dq (λi e s=>dB e 0 (.ptr r 0 0 0)/\dB e 1 E/\dB e 8 E/\dB e 9 (dy y.length)/\dB e 10 (dy i)/\r9 Q S r (TI.hr o) s/\∃(l:T) (n:List Int),dB e 5 l/\Gr s l 1 (n.map (T.int .i64))/\(∀b,dO l=some b->o.size<=b)/\n.length<=i) ?_ ?_ dq ⟨by simp[h],by simp[f],dt,dt,dt,r9.refl P.hr (D.eq (f9 o r)),_,[],dt,Gr.nil _ _,dt,au _⟩
 ·rintro i e s N C ⟨h,f,u,q,p,m,l,n,t,go,j,an⟩;have J:Gr s E 1 (y.map (T.int .i64)):=v.mono λb c=>by
   obtain⟨_,_,_,_,z,_⟩:=v.box c;exact(m.w.get b (H.ez z) λB=>O (by rw[<-B];exact c)).trans (f9 o b)
  obtain⟨aN,aX,bn,a6,bs,_,X,Z,G⟩:=J.IK (te:=FF) rfl (i:=i) (by simpa using N);have W:binop .add (dy (i:Int)) (dy 3)=some (dy ((i:Int)+3)):=il dq dq;simp at G;simp[h,f,u,q,p,N,X,Z,G,W,J.len];obtain⟨k,ae,Y,a8,t2,R⟩:=Ol (tb:=⟨pt [],ht [(63,kh)]⟩) dt m.g m.w.ok K 2 dq dq;refine VZ (λc=> ?_) (λc=> ?_)
  ·simp[Y,c];refine⟨_,_,⟨rfl,rfl⟩,?_⟩;have A:=(m.call R t2).le (Nat.le_succ Q);have ap:dO l≠some r:=λz=>by have:=j r z;omega
   have I:Gr ae l 1 (n.map (T.int .i64)):=go.mono λb c=>R.get b λB=>ap (by rw[<-B];exact c);simp;refine dW (λal=> ?_) (λal=> ?_)
   ·obtain⟨bl,a7,U,bi,bk,F⟩:=(Xt.refl I A.w.ok).RT y[i] dq;simp[h,f,t,u,q,p,U,C];exact⟨A.xt F j M,_,F.1,λb c=>(F.2.2.1 b c).elim (j b) λz=>by have:=A.w.size;simp at this;omega,du⟩
   ·simp[h,f,t,u,q,p,C];exact⟨A,_,I,j,dq⟩
  ·simp[c];refine⟨_,_,⟨rfl,rfl⟩,?_⟩;simp[h,f,t,u,q,p,C];exact⟨m,_,go,j,dq⟩
 ·rintro e s ⟨h,f,u,q,p,m,l,n,t,go,j,an⟩;simp[t,q,p];exact m.cut P M (go.Yh (d:=1) dq j λx o V=>fW ..) λaA aE=>⟨n,rfl,dw,aE,aA⟩
end
end Go.Proofs.YtmaeadedikngoaaGreatDoor
