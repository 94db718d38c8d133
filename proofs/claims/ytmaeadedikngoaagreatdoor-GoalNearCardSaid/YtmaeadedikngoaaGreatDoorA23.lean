/- Texts X03 to X03. -/
import Derived.Test.YtmaeadedikngoaaGreatDoorA22
set_option linter.all false
set_option maxRecDepth 100000
set_option maxHeartbeats 8000000
namespace Go.Proofs.YtmaeadedikngoaaGreatDoor
noncomputable section
open Go Go.TI
attribute [-simp] List.map_take List.map_drop List.map_append fw eQ dZ Bool.not_or Bool.not_and
attribute [simp] fq eY
structure R3 where
 (L:List Int) (b p:Nat) (x0 x1 x2 x3 x4 x5 v:T) (K:List Int)
def po(a:R3)(d:List T)(c:H):Prop:=d=[.ptr a.b 0 0 0,.agg [a.x0,a.x1,a.x2,a.x3,a.x4,a.x5,a.v]]/\uJ a.p a.L a.b c/\gF 0 c/\okB a.L/\a.K.length<=98/\Gr c a.v 1 (a.K.map (T.int .i64))/\dO a.v≠some a.b/\(T.agg [a.x0,a.x1,a.x2,a.x3,a.x4,a.x5,a.v]).gJ=true
def nK(a:R3)(g:List T)(e:H)(f:T)(d:H):Prop:=∃c:Int,f= dy c/\-1<=c/\c<a.K.length/\uJ a.p a.L a.b d/\Sm a.b e d
def vj{g:Nat}{d:List Int}{c:Nat}{a b:H}(l:r9 g d c (TI.hr a) b)(k:gF 0 a)(i:c<a.size){e:ak}{f:Int}{h:T->H->Prop}
 (j:Sm c a (uq a b)->uJ g d c (uq a b)->h (.int e f) (uq a b)):xF a (.int e f) b h:=l.cut k i ⟨_,rfl,rfl⟩ j
def JY:(js R3 po nK).Ok Tryz.prog cx 64:=by
 refine p7 (tb:=⟨pt [],ht [(63,kh)]⟩) ew ej (iQ 4194363 [] Tryz.func64) (λ_ _=>5) (λi a c ae=>by obtain⟨rfl,_⟩:=ae;simp[Tryz.f64]) ?_;rintro⟨O,j,L,p,r,s,t,u,v,k,b⟩ _ c ⟨rfl,n,K,E,hl,e,J,l⟩ bi F;simp only at n E hl e J l;simp at F;obtain⟨B,C⟩:=F;have V:=n.tp.lt;have aX:(j=c.size)=False:=du;have o:=(r9.refl K.hr (n.eq (f9 c j))).cons (dA 7 0 [.agg [p,r,s,t,u,v,k]]);obtain⟨d,D,z,a6,t2,M⟩:=Ol (tb:=⟨pt [],ht [(63,kh)]⟩) dt o.g o.w.ok E (b.length+2) dq dq;have N:=(o.call M t2).le (Nat.le_succ L);have R:=(M.get c.size dq).trans (by rw[dP,nq,aq rfl]);have x:binop .add (dy (b.length:Int)) (dy 2)=some (dy ((b.length:Int)+2)):=il dq dq;have fin:∀h:Int,-1<=h->h<b.length->xF c (dy h) D (nK ⟨O,j,L,p,r,s,t,u,v,k,b⟩ [.ptr j 0 0 0,.agg [p,r,s,t,u,v,k]] c):=λh al an=>vj N K V λap av=>⟨h,rfl,al,an,av,ap⟩;have a7:=e.cells;have I:=e.len (cx:=cx);by_cases X:(d:Int)-2<0
 ·have m:binop .sub (dy (d:Int)) (dy 2)=some (dy ((d:Int)-2)):=De rfl dq dq;simp[Tryz.f64,B,C,x,z,m,X,l,I];exact fin _ dq dq
 obtain⟨f,Z⟩:∃f:Nat,(d:Int)-2=f:=⟨d-2,dq⟩;have m:binop .sub (dy (d:Int)) (dy 2)=some (dy (f:Int)):=De Z dq dq;have Y:f<b.length:=dq;have U:Gr D k 1 (b.map (T.int .i64)):=e.mono λy G=>by
  obtain⟨_,_,_,_,q,_⟩:=e.box G;have:=H.ez q;exact(N.w.get y (by simpa using this) λP=>J (by rw[<-P];exact G)).trans (f9 c y)
 obtain⟨aA,aE,a8,aN,bk,_,Q,S,A⟩:=U.IK (te:=FF) rfl (i:=f) (by simpa using Y);simp at A;simp[Tryz.f64,B,C,x,z,m,R,l,I,Q,S,A];refine dW (λW=> ?_) (λW=> ?_)
 ·simp;exact fin _ dq dq
 ·simp;exact fin _ dq dq 
def r9.next{tb:fy}{k:Nat}{e:List Int}{c:Nat}{j f:H}(i:r9 k e c j f)(ht:tb.h 63=some kh)(o:okB e)(b:Int)(n:1<=b)(a:b<=100):
 ∃(d:Nat) (a:H),hl Tryz.prog cx tb 63 [.ptr c 0 0 0,dy b] f=some (dy d,a)/\(d:Int)<b/\r9 (k+1) e c j a/\Sm c f a:=by
 obtain⟨d,a,m,p,t2,l⟩:=Ol ht i.g i.w.ok o b n a;exact⟨d,a,m,p,i.call l t2,l⟩
structure HN where
 (L:List Int) (b p:Nat) (k t:Int)
def yZ(a:HN)(d:List T)(c:H):Prop:=d=[.ptr a.b 0 0 0,dy a.k,dy a.t]/\uJ a.p a.L a.b c/\gF 0 c/\okB a.L/\0<=a.t/\a.t<4/\1<=a.k/\a.k<=23
def rO(a:HN)(g:List T)(e:H)(f:T)(d:H):Prop:=∃c:Int,f= dy c/\-1<=c/\(a.k=3\/a.k=4->0<=c/\c<5)/\uJ a.p a.L a.b d/\Sm a.b e d
def YU:(js HN yZ rO).Ok Tryz.prog cx 100:=by
 refine p7 (tb:=⟨pt [],ht [(63,kh)]⟩) ew ej (iQ 8659206599 [] Tryz.func100) (λ_ _=>5) (λP a e I=>by obtain⟨rfl,_⟩:=I;simp[Tryz.f100]) ?_;rintro⟨m,b,j,c,f⟩ _ e ⟨rfl,v,q,x,J,K,F,G⟩ Q y;simp only at v x J K F G;simp at y;obtain⟨p,n,E⟩:=y;have z:=v.tp.lt;have g:=r9.refl q.hr (v.eq (f9 e b));have o:=λ{i:H} (g:r9 j m b (TI.hr e) i)=>g.next (tb:=⟨pt [],ht [(63,kh)]⟩) dt x;have fin:∀(i:H) (d:Int),r9 (j+1) m b (TI.hr e) i->-1<=d->(c=3\/c=4->0<=d/\d<5)->xF e (dy d) i (rO ⟨m,b,j,c,f⟩ [.ptr b 0 0 0,dy c,dy f] e):=λi d g r O=>vj (g.le (Nat.le_succ j)) q z λs u=>⟨d,rfl,r,O,u,s⟩;by_cases B:c=3\/c=4
 ·obtain⟨k,C,h,A,l,t⟩:=o (g.cons (dA 1 0 [dy 0,dy 0,dy 0,dy 1,dy 1,dy 2,dy 3,dy 4])) 8 dq dq;have w:=(t.get e.size dq).trans (by rw[dP,nq,aq rfl]);rcases B with rfl|rfl<;>simp[Tryz.f100,p,n,h,w]<;>rcases(by omega:k=0\/k=1\/k=2\/k=3\/k=4\/k=5\/k=6\/k=7)with rfl|rfl|rfl|rfl|rfl|rfl|rfl|rfl<;>simp[w]<;>exact fin _ _ l dq dq
 by_cases M:c=6\/c=7
 ·obtain⟨k,C,h,A,l,t⟩:=o g 2 dq dq;rcases M with rfl|rfl<;>simp[Tryz.f100,p,n,h]<;>exact fin _ _ l dq dq
 by_cases L:c=20\/c=21
 ·obtain⟨k,C,h,A,l,t⟩:=o g 3 dq dq;have a1:binop .add (dy f) (dy 1)=some (dy (f+1)):=yB rfl dq dq;have a2:binop .add (dy (f+1)) (dy (k:Int))=some (dy (f+1+k)):=yB rfl dq dq;have a3:=yQ (k:= .i64) (a:=f+1+k) (b:=4) dq;have t0:=Int.tmod_nonneg 4 (show 0<=f+1+k by omega);rcases L with rfl|rfl<;>simp[Tryz.f100,p,n,E,h,a1,a2,a3]<;>exact fin _ _ l dq dq
 have D:∀d:Int,-1<=d->xF e (dy d) (TI.hr e) (rO ⟨m,b,j,c,f⟩ [.ptr b 0 0 0,dy c,dy f] e):=λd r=>vj g q z λs u=>⟨d,rfl,r,λN=>(B N).elim,u,s⟩;rcases(by omega:c=1\/c=2\/c=5\/c=8\/c=9\/c=10\/c=11\/c=12\/c=13\/c=14\/c=15\/c=16\/c=17\/c=18\/c=19\/c=22\/c=23)with rfl|rfl|rfl|rfl|rfl|rfl|rfl|rfl|rfl|rfl|rfl|rfl|rfl|rfl|rfl|rfl|rfl<;>simp[Tryz.f100,n]<;>exact D _ dq 
structure HL where
 (L:List Int) (b p:Nat) (s:d8) (k o:Int)
def yY(a:HL)(d:List T)(c:H):Prop:=d=[.ptr a.b 0 0 0,a.s.t,dy a.k,dy a.o]/\uJ a.p a.L a.b c/\gF 0 c/\okB a.L/\(a.k=3->0<=a.o/\a.o<a.s.cells.length)/\1<=a.s.dX.length/\a.s.fF.dE.length<=98
def rN(a:HL)(g:List T)(d:H)(e:T)(c:H):Prop:=∃f:Int,e= dy f/\uJ a.p a.L a.b c/\Sm a.b d c
def Vv{tb:fy}(ht:tb.p 150=some xW.jf){s:d8}(c:s.fF.dE.length<=1000):∃a:List Int,a.length<=s.fF.dE.length/\rl Tryz.prog cx tb 150 [s.t]=some (sl (a.map (T.int .i64))):=by
 obtain⟨_,⟨a,rfl,hl⟩,b⟩:=xW.use s c;exact⟨a,hl,b ht⟩
def YP:(js HL yY rN).Ok Tryz.prog cx 101:=by
 refine p7 (tb:=⟨pt [(150,xW.jf)],ht [(63,kh)]⟩) ew ej (iQ 141296388017967 [] Tryz.func101) (λ_ _=>5) (λi a c W=>by obtain⟨rfl,_⟩:=W;simp[Tryz.f101]) ?_;rintro⟨p,d,n,s,b,g⟩ _ c ⟨rfl,C,z,E,v,S,X⟩ an F;simp only at C E v S X;simp at F;obtain⟨u,k,l,R⟩:=F;have G:=C.tp.lt;have o:=(r9.refl z.hr (C.eq (f9 c d))).cons (dA 7 0 [s.t]);have q:=o.next (tb:=⟨pt [(150,xW.jf)],ht [(63,kh)]⟩) dt E;have j:∀e:Int,xF c (dy e) _ (rN ⟨p,d,n,s,b,g⟩ [.ptr d 0 0 0,s.t,dy b,dy g] c):=λe=>vj o z G λA B=>⟨e,rfl,B,A⟩;have fin:∀(r:H) (e:Int),r9 (n+1) p d (TI.hr c) r->xF c (dy e) r (rN ⟨p,d,n,s,b,g⟩ [.ptr d 0 0 0,s.t,dy b,dy g] c):=λr e o=>vj (o.le (Nat.le_succ n)) z G λA B=>⟨e,rfl,B,A⟩;have al:(d=c.size)=False:=du;by_cases x:b=3
 ·obtain⟨y,U⟩:∃y:Nat,g=y:=⟨g.toNat,by have:=v x;omega⟩;have V:y<s.cells.length:=by have:=v x;omega
  subst x;subst U;simp[Tryz.f101,k,l,R,V];exact j _
 by_cases Y:b=23
 ·subst Y;simp[Tryz.f101,k,l,show 0<s.dX.length by omega];exact j _
 by_cases Z:b=4\/b=22
 ·obtain⟨w,L,h,I,m,K⟩:=q 3 dq dq;rcases Z with rfl|rfl<;>simp[Tryz.f101,u,k,l,h]<;>exact fin _ _ m
 by_cases ae:b=5
 ·obtain⟨w,L,h,I,m,K⟩:=q 2 dq dq;subst ae;simp[Tryz.f101,u,k,l,h];exact fin _ _ m
 have O:decide (b=3)=false:=aM dq;have N:decide (b=23)=false:=aM dq;have P:decide (b=4)=false:=aM dq;have M:decide (b=22)=false:=aM dq;have Q:decide (b=5)=false:=aM dq;obtain⟨J,hl,D⟩:=Vv (tb:=⟨pt [(150,xW.jf)],ht [(63,kh)]⟩) dt (s:=s) dq;simp[Tryz.f101,k,l,O,N,P,M,Q];refine dW (λf=> ?_) (λf=> ?_)
 ·simp[D];refine dW (λf=> ?_) (λf=> ?_)
  ·obtain⟨w,L,h,I,m,K⟩:=q J.length (by simp at f;omega) dq;have T:w<J.length:=dq;simp[u,h,T];exact fin _ _ m
  ·simp;exact j _
 simp;refine dW (λf=> ?_) (λf=> ?_)
 ·simp[D];exact j _
 ·simp;exact j _
end
end Go.Proofs.YtmaeadedikngoaaGreatDoor
