/- Texts X03 to X03. -/
import Derived.Test.YtmaeadedikngoaaGreatDoorA22
set_option linter.unusedVariables false
set_option linter.unusedSimpArgs false
set_option linter.defProp false
set_option maxRecDepth 100000
set_option maxHeartbeats 8000000
namespace Go.Proofs.YtmaeadedikngoaaGreatDoor
noncomputable section
open Go Go.TI
attribute [-simp] List.map_take List.map_drop List.map_append fj eG dY Bool.not_or Bool.not_and
attribute [simp] fh eJ
structure RS where
 (L:List Int) (b p:Nat) (x0 x1 x2 x3 x4 x5 v:T) (K:List Int)
def ph(a:RS)(d:List T)(c:H):Prop:=d=[.ptr a.b 0 0 0,.agg [a.x0,a.x1,a.x2,a.x3,a.x4,a.x5,a.v]]/\uD a.p a.L a.b c/\gu 0 c/\okB a.L/\a.K.length<=98/\Gr c a.v 1 (a.K.map (T.int .i64))/\dL a.v≠some a.b/\(T.agg [a.x0,a.x1,a.x2,a.x3,a.x4,a.x5,a.v]).gD=true
def nG(a:RS)(g:List T)(e:H)(f:T)(d:H):Prop:=∃c:Int,f= dw c/\-1<=c/\c<a.K.length/\uD a.p a.L a.b d/\Sm a.b e d
def u6{g:Nat}{d:List Int}{c:Nat}{a b:H}(l:rV g d c (TI.hr a) b)(k:gu 0 a)(i:c<a.size){e:ak}{f:Int}{h:T->H->Prop}
 (j:Sm c a (ui a b)->uD g d c (ui a b)->h (.int e f) (ui a b)):xv a (.int e f) b h:=l.cut k i ⟨_,rfl,rfl⟩ j
def JQ:(jp RS ph nG).Ok Tryz.prog cx 64:=by
 refine pW (tb:=⟨pt [],ht [(63,ka)]⟩) ei eg (iL 4194363 [] Tryz.func64) (λ_ _=>5) (λi a c ae=>by obtain⟨rfl,_⟩:=ae;simp[Tryz.f64]) ?_;rintro⟨O,j,L,p,r,s,t,u,v,k,b⟩ _ c ⟨rfl,n,K,E,hl,e,J,l⟩ bi F;simp only at n E hl e J l;simp at F;obtain⟨B,C⟩:=F;have V:=n.tp.lt;have aX:(j=c.size)=False:=dq;have o:=(rV.refl K.hr (n.eq (fX c j))).cons (dy 7 0 [.agg [p,r,s,t,u,v,k]]);obtain⟨d,D,z,a6,t2,M⟩:=N9 (tb:=⟨pt [],ht [(63,ka)]⟩) dp o.g o.w.ok E (b.length+2) dj dj;have N:=(o.call M t2).le (Nat.le_succ L);have R:=(M.get c.size dj).trans (by rw[dM,ng,aq rfl]);have x:binop .add (dw (b.length:Int)) (dw 2)=some (dw ((b.length:Int)+2)):=gY dj dj;have fin:∀h:Int,-1<=h->h<b.length->xv c (dw h) D (nG ⟨O,j,L,p,r,s,t,u,v,k,b⟩ [.ptr j 0 0 0,.agg [p,r,s,t,u,v,k]] c):=λh al an=>u6 N K V λap av=>⟨h,rfl,al,an,av,ap⟩;have a7:=e.cells;have I:=e.len (cx:=cx);by_cases X:(d:Int)-2<0
 ·have m:binop .sub (dw (d:Int)) (dw 2)=some (dw ((d:Int)-2)):=Du rfl dj dj;simp[Tryz.f64,B,C,x,z,m,X,l,I];exact fin _ dj dj
 obtain⟨f,Z⟩:∃f:Nat,(d:Int)-2=f:=⟨d-2,dj⟩;have m:binop .sub (dw (d:Int)) (dw 2)=some (dw (f:Int)):=Du Z dj dj;have Y:f<b.length:=dj;have U:Gr D k 1 (b.map (T.int .i64)):=e.mono λy G=>by
  obtain⟨_,_,_,_,q,_⟩:=e.box G;have:=H.ej q;exact(N.w.get y (by simpa using this) λP=>J (by rw[<-P];exact G)).trans (fX c y)
 obtain⟨aA,aE,a8,aN,bk,_,Q,S,A⟩:=U.ID (te:=FI) rfl (i:=f) (by simpa using Y);simp at A;simp[Tryz.f64,B,C,x,z,m,R,l,I,Q,S,A];refine dU (λW=> ?_) (λW=> ?_)
 ·simp;exact fin _ dj dj
 ·simp;exact fin _ dj dj 
def rV.next{tb:fq}{k:Nat}{e:List Int}{c:Nat}{j f:H}(i:rV k e c j f)(ht:tb.h 63=some ka)(o:okB e)(b:Int)(n:1<=b)(a:b<=100):
 ∃(d:Nat) (a:H),hl Tryz.prog cx tb 63 [.ptr c 0 0 0,dw b] f=some (dw d,a)/\(d:Int)<b/\rV (k+1) e c j a/\Sm c f a:=by
 obtain⟨d,a,m,p,t2,l⟩:=N9 ht i.g i.w.ok o b n a;exact⟨d,a,m,p,i.call l t2,l⟩
structure HF where
 (L:List Int) (b p:Nat) (k t:Int)
def yP(a:HF)(d:List T)(c:H):Prop:=d=[.ptr a.b 0 0 0,dw a.k,dw a.t]/\uD a.p a.L a.b c/\gu 0 c/\okB a.L/\0<=a.t/\a.t<4/\1<=a.k/\a.k<=23
def rK(a:HF)(g:List T)(e:H)(f:T)(d:H):Prop:=∃c:Int,f= dw c/\-1<=c/\(a.k=3\/a.k=4->0<=c/\c<5)/\uD a.p a.L a.b d/\Sm a.b e d
def YK:(jp HF yP rK).Ok Tryz.prog cx 100:=by
 refine pW (tb:=⟨pt [],ht [(63,ka)]⟩) ei eg (iL 8659206599 [] Tryz.func100) (λ_ _=>5) (λP a e I=>by obtain⟨rfl,_⟩:=I;simp[Tryz.f100]) ?_;rintro⟨m,b,j,c,f⟩ _ e ⟨rfl,v,q,x,J,K,F,G⟩ Q y;simp only at v x J K F G;simp at y;obtain⟨p,n,E⟩:=y;have z:=v.tp.lt;have g:=rV.refl q.hr (v.eq (fX e b));have o:=λ{i:H} (g:rV j m b (TI.hr e) i)=>g.next (tb:=⟨pt [],ht [(63,ka)]⟩) dp x;have fin:∀(i:H) (d:Int),rV (j+1) m b (TI.hr e) i->-1<=d->(c=3\/c=4->0<=d/\d<5)->xv e (dw d) i (rK ⟨m,b,j,c,f⟩ [.ptr b 0 0 0,dw c,dw f] e):=λi d g r O=>u6 (g.le (Nat.le_succ j)) q z λs u=>⟨d,rfl,r,O,u,s⟩;by_cases B:c=3\/c=4
 ·obtain⟨k,C,h,A,l,t⟩:=o (g.cons (dy 1 0 [dw 0,dw 0,dw 0,dw 1,dw 1,dw 2,dw 3,dw 4])) 8 dj dj;have w:=(t.get e.size dj).trans (by rw[dM,ng,aq rfl]);rcases B with rfl|rfl<;>simp[Tryz.f100,p,n,h,w]<;>rcases(by omega:k=0\/k=1\/k=2\/k=3\/k=4\/k=5\/k=6\/k=7)with rfl|rfl|rfl|rfl|rfl|rfl|rfl|rfl<;>simp[w]<;>exact fin _ _ l dj dj
 by_cases M:c=6\/c=7
 ·obtain⟨k,C,h,A,l,t⟩:=o g 2 dj dj;rcases M with rfl|rfl<;>simp[Tryz.f100,p,n,h]<;>exact fin _ _ l dj dj
 by_cases L:c=20\/c=21
 ·obtain⟨k,C,h,A,l,t⟩:=o g 3 dj dj;have a1:binop .add (dw f) (dw 1)=some (dw (f+1)):=yr rfl dj dj;have a2:binop .add (dw (f+1)) (dw (k:Int))=some (dw (f+1+k)):=yr rfl dj dj;have a3:=CJ (k:= .i64) (a:=f+1+k) (b:=4) dj;have t0:=Int.tmod_nonneg 4 (show 0<=f+1+k by omega);rcases L with rfl|rfl<;>simp[Tryz.f100,p,n,E,h,a1,a2,a3]<;>exact fin _ _ l dj dj
 have D:∀d:Int,-1<=d->xv e (dw d) (TI.hr e) (rK ⟨m,b,j,c,f⟩ [.ptr b 0 0 0,dw c,dw f] e):=λd r=>u6 g q z λs u=>⟨d,rfl,r,λN=>(B N).elim,u,s⟩;rcases(by omega:c=1\/c=2\/c=5\/c=8\/c=9\/c=10\/c=11\/c=12\/c=13\/c=14\/c=15\/c=16\/c=17\/c=18\/c=19\/c=22\/c=23)with rfl|rfl|rfl|rfl|rfl|rfl|rfl|rfl|rfl|rfl|rfl|rfl|rfl|rfl|rfl|rfl|rfl<;>simp[Tryz.f100,n]<;>exact D _ dj 
structure HD where
 (L:List Int) (b p:Nat) (s:dW) (k o:Int)
def yO(a:HD)(d:List T)(c:H):Prop:=d=[.ptr a.b 0 0 0,a.s.t,dw a.k,dw a.o]/\uD a.p a.L a.b c/\gu 0 c/\okB a.L/\(a.k=3->0<=a.o/\a.o<a.s.cells.length)/\1<=a.s.dT.length/\a.s.fx.dB.length<=98
def rJ(a:HD)(g:List T)(d:H)(e:T)(c:H):Prop:=∃f:Int,e= dw f/\uD a.p a.L a.b c/\Sm a.b d c
def Vk{tb:fq}(ht:tb.p 150=some xO.jb){s:dW}(c:s.fx.dB.length<=1000):∃a:List Int,a.length<=s.fx.dB.length/\rl Tryz.prog cx tb 150 [s.t]=some (sl (a.map (T.int .i64))):=by
 obtain⟨_,⟨a,rfl,hl⟩,b⟩:=xO.use s c;exact⟨a,hl,b ht⟩
def YF:(jp HD yO rJ).Ok Tryz.prog cx 101:=by
 refine pW (tb:=⟨pt [(150,xO.jb)],ht [(63,ka)]⟩) ei eg (iL 141296388017967 [] Tryz.func101) (λ_ _=>5) (λi a c W=>by obtain⟨rfl,_⟩:=W;simp[Tryz.f101]) ?_;rintro⟨p,d,n,s,b,g⟩ _ c ⟨rfl,C,z,E,v,S,X⟩ an F;simp only at C E v S X;simp at F;obtain⟨u,k,l,R⟩:=F;have G:=C.tp.lt;have o:=(rV.refl z.hr (C.eq (fX c d))).cons (dy 7 0 [s.t]);have q:=o.next (tb:=⟨pt [(150,xO.jb)],ht [(63,ka)]⟩) dp E;have j:∀e:Int,xv c (dw e) _ (rJ ⟨p,d,n,s,b,g⟩ [.ptr d 0 0 0,s.t,dw b,dw g] c):=λe=>u6 o z G λA B=>⟨e,rfl,B,A⟩;have fin:∀(r:H) (e:Int),rV (n+1) p d (TI.hr c) r->xv c (dw e) r (rJ ⟨p,d,n,s,b,g⟩ [.ptr d 0 0 0,s.t,dw b,dw g] c):=λr e o=>u6 (o.le (Nat.le_succ n)) z G λA B=>⟨e,rfl,B,A⟩;have al:(d=c.size)=False:=dq;by_cases x:b=3
 ·obtain⟨y,U⟩:∃y:Nat,g=y:=⟨g.toNat,by have:=v x;omega⟩;have V:y<s.cells.length:=by have:=v x;omega
  subst x;subst U;simp[Tryz.f101,k,l,R,V];exact j _
 by_cases Y:b=23
 ·subst Y;simp[Tryz.f101,k,l,show 0<s.dT.length by omega];exact j _
 by_cases Z:b=4\/b=22
 ·obtain⟨w,L,h,I,m,K⟩:=q 3 dj dj;rcases Z with rfl|rfl<;>simp[Tryz.f101,u,k,l,h]<;>exact fin _ _ m
 by_cases ae:b=5
 ·obtain⟨w,L,h,I,m,K⟩:=q 2 dj dj;subst ae;simp[Tryz.f101,u,k,l,h];exact fin _ _ m
 have O:decide (b=3)=false:=aM dj;have N:decide (b=23)=false:=aM dj;have P:decide (b=4)=false:=aM dj;have M:decide (b=22)=false:=aM dj;have Q:decide (b=5)=false:=aM dj;obtain⟨J,hl,D⟩:=Vk (tb:=⟨pt [(150,xO.jb)],ht [(63,ka)]⟩) dp (s:=s) dj;simp[Tryz.f101,k,l,O,N,P,M,Q];refine dU (λf=> ?_) (λf=> ?_)
 ·simp[D];refine dU (λf=> ?_) (λf=> ?_)
  ·obtain⟨w,L,h,I,m,K⟩:=q J.length (by simp at f;omega) dj;have T:w<J.length:=dj;simp[u,h,T];exact fin _ _ m
  ·simp;exact j _
 simp;refine dU (λf=> ?_) (λf=> ?_)
 ·simp[D];exact j _
 ·simp;exact j _
end
end Go.Proofs.YtmaeadedikngoaaGreatDoor
