/- Texts X02 to X02. -/
import Derived.Test.YtmaeadedikngoaaGreatDoorA19
set_option linter.all false
set_option maxRecDepth 100000
set_option maxHeartbeats 8000000
namespace Go.Proofs.YtmaeadedikngoaaGreatDoor
noncomputable section
open Go Go.TI
attribute [-simp] List.map_take List.map_drop List.map_append fG fg ei Bool.not_or Bool.not_and
attribute [simp] fF fh
def vS:List Int:=[3,3,3,3,3,4,4,4,4,4,5,5,5,6,6,6,7,7,7,8,9,10,11,12,13,14,14,15,16,16,17,17,18,18,19,20,1,1,2,21,22,23,23]
def tg:hU:=⟨Unit,λ_=>[],λ_=>True,λ_=>sl (vS.map (T.int .i64)),λ_ _ _=>rfl⟩
def Sf:tg.Ok Tryz.prog cx 99:=by
 refine iv (tb:=⟨pt [],ht []⟩) fa eQ (iR 1 [] Tryz.func99) (λ_=>5) (by simp[tg]) (by simp[tg,Tryz.f99]) ?_;rintro _ _ b a;simp[tg]at a|-;simp[Tryz.f99,gH,vS]
def _root_.Go.TI.Xt.FB{d b:H}{f g:T}{e:Nat}{c:List T}(a:Xt d f e c g b):ig 0 b:=⟨a.2.2.2.hp,a.2.2.2.low,aw _⟩
def _root_.Go.TI.Xt.TB{i e:H}{j k:T}{d:List Int}(c:Xt i j 1 (d.map (T.int .i64)) k e)(g:Int)(m:d.length<=1000000):∃a b,iO cx (e.cons (dG 1 0 [dE g])) 38 38 k (.arr e.size 0 0 1 false)=some (.val a b)/\a.il=true/\a.cells=[a]/\Xt i j 1 ((d++[g]).map (T.int .i64)) a b:=by
 obtain⟨a,b,l,h⟩:=c.1.nd (cx:=cx) (f:=T.int .i64) c.FB ko rfl nc rfl dA (λ_=>rfl) g dB;exact⟨a,b,l,h.1.il,h.1.cells,c.trans h⟩
def yB:nO Tryz.prog cx 150 (λa:ej=>[a.t]) (λa=>a.fM.dK.length<=1000) (λa A=>∃v:List Int,A=sl (v.map (T.int .i64))/\v.length<=a.fM.dK.length):=by
 refine jt (tb:=⟨pt [],ht []⟩) fa eQ (iR 134975 [] Tryz.func150) (λa=>a.fM.dK.length+5) (λC b e=>by simp at e;exact ej.inj e) dA (by simp[Tryz.f150]) ?_;rintro a hl d r;simp at r;simp[Tryz.f150,r];generalize q:H.cons hE _=m;have x:m.get 0=some (dG 7 0 [a.t]):=by subst q;simp
 have o:ig 1 m:=by subst q;exact⟨dA,dA,dA⟩
 refine fy a.fM.dK.length dz (λi d e=>dH d 1 (.ptr 0 0 0 0)/\dH d 8 (sl (a.fM.dK.map dN.t))/\dH d 9 (dE a.fM.dK.length)/\dH d 10 (dE i)/\∃(l:T) (f:List Int),dH d 3 l/\Xt m dF 1 (f.map (T.int .i64)) l e/\f.length<=i) ?_ ?_ dz ⟨dA,dA,dA,dA,dF,[],dA,Xt.refl (Gr.nil _ _) ⟨o.hp,o.low,aw _⟩,au _⟩
 ·rintro i d e z s ⟨n,k,h,g,l,f,j,c,u⟩;have K:=o.sz;have D:=(c.2.1 0 dz dA).trans x;have w:ig 1 e:=⟨c.2.2.2.hp,c.2.2.2.low,by have:=c.2.2.2.sz;omega⟩;have F:=w.ne (b:=0) dz;simp[k,h,g,z,w.low];refine ee (λy=> ?_) (λy=> ?_)
  ·obtain⟨J,E,p,G,I,B⟩:=(c.cons (dG 3 1 [a.fM.dK[i].t])).TB i dz;rw[size_cons]at p;simp[n,j,k,h,g,s,p];exact⟨_,B,dB⟩
  ·simp[n,j,k,h,g,s];exact⟨_,c.cons _,dz⟩
 ·rintro d e ⟨n,k,h,g,l,f,j,c,u⟩;simp[j,h,g,c.1.il,c.1.qJ dA,c.2.2.2.hp];exact⟨f,rfl,u⟩
structure A5 where
 (L:List Int) (b p:Nat) (v:T) (ns:List Int)
def uD(a:A5)(d:List T)(c:H):Prop:=d=[.ptr a.b 0 0 0,a.v]/\Gr c a.v 1 (a.ns.map (T.int .i64))/\dS a.v≠some a.b/\vm a.p a.L a.b c/\ig 0 c/\okB a.L/\a.ns.length<=1000
def t8(a:A5)(g:List T)(e:H)(f:T)(c:H):Prop:=∃d:List Int,f=sl (d.map (T.int .i64))/\d.length<=a.ns.length/\vm a.p a.L a.b c/\Sm a.b e c
def sY.xt{m:Nat}{k:List Int}{b:Nat}{c e f:H}{n t:T}{s:Nat}{o:List T}(d:sY m k b c e)(j:Xt e n s o t f)(q:∀a,dS n=some a->c.size<=a)(l:b<c.size):sY m k b c f:=by
 have u:=d.w.size;have i:∀a,a<c.size->f.get a=e.get a:=λa h=>j.2.1 a dz λr=>by have:=q a r;omega
 exact⟨⟨j.FB,by have:=j.2.2.2.sz;omega,λa h p=>(i a h).trans (d.w.get a h p),d.w.tp.eq (i b l)⟩,d.g.eq (i b l)⟩
def _root_.Go.TI.FT.adC{c:H}{o:Nat->Prop}{g p:Nat}(l:p<=12)(s:∀a,o a->g<=a){b n:T}(ft:FT c o p b n)(r:∀i,b≠ .agg i)(w:∀i,b≠ .tuple i):∃k,jm c g b=some k/\cn k=n:=by
 have q:=(ft.deep l).fzN s;have u:(dU (iJ c 0 b) λb=>some (cn b))=some n:=(ft.deep l).fz;have v:jm c g b=iJ c 0 b:=by
  rcases ft.deep l with⟨z,m,rfl⟩|⟨a,d,h,f,e,C,D,rfl,y,E,x,rfl⟩|⟨i,B,rfl,x,rfl⟩
  ·cases b<;>first|exact(r _ rfl).elim|exact q|(simp[jW]at z)|exact(w _ rfl).elim
  ·have m:∀j,iJ c j (.arr a d h f e)=(Bool.casesOn (Nat.ble j a) (some (.arr a d h f e)) (TI.freeze c j 12 (.arr a d h f e)):aa T):=λj=>rfl;show iJ c g (.arr a d h f e)=iJ c 0 (.arr a d h f e);rw[m,m,show Nat.ble g a=true from ci (s a y),show Nat.ble 0 a=true from ci (aw a),q]
  ·exact absurd rfl (r _)
 rw[<-v]at u;obtain⟨k,A,t⟩:=dJ.1 u;simp only[ar]at t;exact⟨k,A,t⟩
def wQ{c g h:Type}{d:g->h->Prop}{e:c->g}{f:c->h}{a:List c}(i:∀b,d (e b) (f b)):iB d (a.map e) (a.map f):=by
 induction a with
 |nil=>exact .nil
 |cons b a j=>exact .cons (i b) j
def _root_.Go.TI.Gr.ZP{l:Type}{a:l->T}{b:H}{h:T}{s g d:Nat}{j:List l}(f:Gr b h s (j.map a))(v:d<=11)(q:∀i,dS h=some i->g<=i)(p:∀c b V,FT b V d (a c) (a c)):∃k,jm b g h=some k/\cn k=sl (j.map a):=
 (f.ft (V:=λe=>g<=e) (d:=d) q (wQ λc=>p c _ _)).adC dz (λ_ r=>r) (λm=>by rcases f with⟨rfl,_⟩|⟨e,n,t,o,u,rfl,_⟩<;>simp) (λm=>by rcases f with⟨rfl,_⟩|⟨e,n,t,o,u,rfl,_⟩<;>simp)
def VT:(jw A5 uD t8).Ok Tryz.prog cx 102:=by
 refine qN (tb:=⟨pt [],ht [(63,kH)]⟩) fa eQ (iR 16781299 [] Tryz.func102) (λ_ _=>1005) (λi a o av=>by obtain⟨rfl,_⟩:=av;simp[Tryz.f102]) ?_;rintro⟨S,r,Q,E,y⟩ _ o ⟨rfl,v,O,D,P,K,hl⟩ e L;simp only at v O D K hl;simp at L;obtain⟨h,f⟩:=L;have M:=D.tp.lt;simp[Tryz.f102,f,v.len];refine fy y.length dz (λi e s=>dH e 0 (.ptr r 0 0 0)/\dH e 1 E/\dH e 8 E/\dH e 9 (dE y.length)/\dH e 10 (dE i)/\sY Q S r (TI.hr o) s/\∃(l:T) (n:List Int),dH e 5 l/\Gr s l 1 (n.map (T.int .i64))/\(∀b,dS l=some b->o.size<=b)/\n.length<=i) ?_ ?_ dz ⟨by simp[h],by simp[f],dA,dA,dA,sY.refl P.hr (D.eq (gh o r)),_,[],dA,Gr.nil _ _,dA,au _⟩
 ·rintro i e s N C ⟨h,f,u,q,p,m,l,n,t,go,j,an⟩;have J:Gr s E 1 (y.map (T.int .i64)):=v.mono λb c=>by
   obtain⟨_,_,_,_,z,_⟩:=v.box c;exact(m.w.get b (H.ew z) λB=>O (by rw[<-B];exact c)).trans (gh o b)
  obtain⟨aN,aX,bp,a6,bs,_,X,Z,G⟩:=J.JS (te:=Dw) rfl (i:=i) (by simpa using N);have W:binop .add (dE (i:Int)) (dE 3)=some (dE ((i:Int)+3)):=ik dz dz;simp at G;simp[h,f,u,q,p,N,X,Z,G,W,J.len];obtain⟨k,ae,Y,a8,t2,R⟩:=PG (tb:=⟨pt [],ht [(63,kH)]⟩) dA m.g m.w.ok K 2 dz dz;refine XM (λc=> ?_) (λc=> ?_)
  ·simp[Y,c];refine⟨_,_,⟨rfl,rfl⟩,?_⟩;have A:=(m.call R t2).le (Nat.le_succ Q);have ap:dS l≠some r:=λz=>by have:=j r z;omega
   have I:Gr ae l 1 (n.map (T.int .i64)):=go.mono λb c=>R.get b λB=>ap (by rw[<-B];exact c);simp;refine ee (λal=> ?_) (λal=> ?_)
   ·obtain⟨bn,a7,U,bi,bk,F⟩:=(Xt.refl I A.w.ok).TB y[i] dz;simp[h,f,t,u,q,p,U,C];exact⟨A.xt F j M,_,F.1,λb c=>(F.2.2.1 b c).elim (j b) λz=>by have:=A.w.size;simp at this;omega,dB⟩
   ·simp[h,f,t,u,q,p,C];exact⟨A,_,I,j,dz⟩
  ·simp[c];refine⟨_,_,⟨rfl,rfl⟩,?_⟩;simp[h,f,t,u,q,p,C];exact⟨m,_,go,j,dz⟩
 ·rintro e s ⟨h,f,u,q,p,m,l,n,t,go,j,an⟩;simp[t,q,p];exact m.cut P M (go.ZP (d:=1) dz j λx o V=>fQ ..) λaA aE=>⟨n,rfl,dC,aE,aA⟩
end
end Go.Proofs.YtmaeadedikngoaaGreatDoor
