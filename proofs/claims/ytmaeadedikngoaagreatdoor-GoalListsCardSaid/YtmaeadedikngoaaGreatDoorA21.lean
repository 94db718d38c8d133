/- Texts X03 to X03. -/
import Derived.Test.YtmaeadedikngoaaGreatDoorA20
set_option linter.all false
set_option maxRecDepth 100000
set_option maxHeartbeats 8000000
namespace Go.Proofs.YtmaeadedikngoaaGreatDoor
noncomputable section
open Go Go.TI
attribute [-simp] List.map_take List.map_drop List.map_append fH fh ej Bool.not_or Bool.not_and
attribute [simp] fG fj
structure Tx where
 (L:List Int) (b p:Nat) (x0 x1 x2 x3 x4 x5 v:T) (K:List Int)
def pY(a:Tx)(d:List T)(c:H):Prop:=d=[.ptr a.b 0 0 0,.agg [a.x0,a.x1,a.x2,a.x3,a.x4,a.x5,a.v]]/\vm a.p a.L a.b c/\ij 0 c/\okB a.L/\a.K.length<=98/\Gr c a.v 1 (a.K.map (T.int .i64))/\dU a.v≠some a.b/\(T.agg [a.x0,a.x1,a.x2,a.x3,a.x4,a.x5,a.v]).im=true
def om(a:Tx)(g:List T)(e:H)(f:T)(d:H):Prop:=∃c:Int,f= dG c/\-1<=c/\c<a.K.length/\vm a.p a.L a.b d/\Sm a.b e d
def wc{g:Nat}{d:List Int}{c:Nat}{a b:H}(l:sY g d c (TI.hr a) b)(k:ij 0 a)(i:c<a.size){e:ak}{f:Int}{h:T->H->Prop}
 (j:Sm c a (uR a b)->vm g d c (uR a b)->h (.int e f) (uR a b)):yf a (.int e f) b h:=l.cut k i ⟨_,rfl,rfl⟩ j
def KW:(jF Tx pY om).Ok Tryz.prog cx 64:=by
 refine qJ (tb:=⟨pt [],ht [(63,kE)]⟩) fc fa (je 4194363 [] Tryz.func64) (λ_ _=>5) (λi a c ae=>by obtain⟨rfl,_⟩:=ae;simp[Tryz.f64]) ?_;rintro⟨O,j,L,p,r,s,t,u,v,k,b⟩ _ c ⟨rfl,n,K,E,hl,e,J,l⟩ bi F;simp only at n E hl e J l;simp at F;obtain⟨B,C⟩:=F;have V:=n.tp.lt;have aX:(j=c.size)=False:=dD;have o:=(sY.refl K.hr (n.eq (gF c j))).cons (dI 7 0 [.agg [p,r,s,t,u,v,k]]);obtain⟨d,D,z,a6,t2,M⟩:=Pq (tb:=⟨pt [],ht [(63,kE)]⟩) dC o.g o.w.ok E (b.length+2) dB dB;have N:=(o.call M t2).le (Nat.le_succ L);have R:=(M.get c.size dB).trans (by rw[dW,nV,aq rfl]);have x:binop .add (dG (b.length:Int)) (dG 2)=some (dG ((b.length:Int)+2)):=iy dB dB;have fin:∀h:Int,-1<=h->h<b.length->yf c (dG h) D (om ⟨O,j,L,p,r,s,t,u,v,k,b⟩ [.ptr j 0 0 0,.agg [p,r,s,t,u,v,k]] c):=λh al an=>wc N K V λap av=>⟨h,rfl,al,an,av,ap⟩;have a7:=e.cells;have I:=e.len (cx:=cx);by_cases X:(d:Int)-2<0
 ·have m:binop .sub (dG (d:Int)) (dG 2)=some (dG ((d:Int)-2)):=BJ rfl dB dB;simp[Tryz.f64,B,C,x,z,m,X,l,I];exact fin _ dB dB
 obtain⟨f,Z⟩:∃f:Nat,(d:Int)-2=f:=⟨d-2,dB⟩;have m:binop .sub (dG (d:Int)) (dG 2)=some (dG (f:Int)):=BJ Z dB dB;have Y:f<b.length:=dB;have U:Gr D k 1 (b.map (T.int .i64)):=e.mono λy G=>by
  obtain⟨_,_,_,_,q,_⟩:=e.box G;have:=H.eJ q;exact(N.w.get y (by simpa using this) λP=>J (by rw[<-P];exact G)).trans (gF c y)
 obtain⟨aA,aE,a8,aN,bk,_,Q,S,A⟩:=U.JG (te:=Ed) rfl (i:=f) (by simpa using Y);simp at A;simp[Tryz.f64,B,C,x,z,m,R,l,I,Q,S,A];refine em (λW=> ?_) (λW=> ?_)
 ·simp;exact fin _ dB dB
 ·simp;exact fin _ dB dB 
def sY.next{tb:fN}{k:Nat}{e:List Int}{c:Nat}{j f:H}(i:sY k e c j f)(ht:tb.h 63=some kE)(o:okB e)(b:Int)(n:1<=b)(a:b<=100):
 ∃(d:Nat) (a:H),hl Tryz.prog cx tb 63 [.ptr c 0 0 0,dG b] f=some (dG d,a)/\(d:Int)<b/\sY (k+1) e c j a/\Sm c f a:=by
 obtain⟨d,a,m,p,t2,l⟩:=Pq ht i.g i.w.ok o b n a;exact⟨d,a,m,p,i.call l t2,l⟩
structure ID where
 (L:List Int) (b p:Nat) (k t:Int)
def zI(a:ID)(d:List T)(c:H):Prop:=d=[.ptr a.b 0 0 0,dG a.k,dG a.t]/\vm a.p a.L a.b c/\ij 0 c/\okB a.L/\0<=a.t/\a.t<4/\1<=a.k/\a.k<=23
def sN(a:ID)(g:List T)(e:H)(f:T)(d:H):Prop:=∃c:Int,f= dG c/\-1<=c/\(a.k=3\/a.k=4->0<=c/\c<5)/\vm a.p a.L a.b d/\Sm a.b e d
def aah:(jF ID zI sN).Ok Tryz.prog cx 100:=by
 refine qJ (tb:=⟨pt [],ht [(63,kE)]⟩) fc fa (je 8659206599 [] Tryz.func100) (λ_ _=>5) (λP a e I=>by obtain⟨rfl,_⟩:=I;simp[Tryz.f100]) ?_;rintro⟨m,b,j,c,f⟩ _ e ⟨rfl,v,q,x,J,K,F,G⟩ Q y;simp only at v x J K F G;simp at y;obtain⟨p,n,E⟩:=y;have z:=v.tp.lt;have g:=sY.refl q.hr (v.eq (gF e b));have o:=λ{i:H} (g:sY j m b (TI.hr e) i)=>g.next (tb:=⟨pt [],ht [(63,kE)]⟩) dC x;have fin:∀(i:H) (d:Int),sY (j+1) m b (TI.hr e) i->-1<=d->(c=3\/c=4->0<=d/\d<5)->yf e (dG d) i (sN ⟨m,b,j,c,f⟩ [.ptr b 0 0 0,dG c,dG f] e):=λi d g r O=>wc (g.le (Nat.le_succ j)) q z λs u=>⟨d,rfl,r,O,u,s⟩;by_cases B:c=3\/c=4
 ·obtain⟨k,C,h,A,l,t⟩:=o (g.cons (dI 1 0 [dG 0,dG 0,dG 0,dG 1,dG 1,dG 2,dG 3,dG 4])) 8 dB dB;have w:=(t.get e.size dB).trans (by rw[dW,nV,aq rfl]);rcases B with rfl|rfl<;>simp[Tryz.f100,p,n,h,w]<;>rcases(by omega:k=0\/k=1\/k=2\/k=3\/k=4\/k=5\/k=6\/k=7)with rfl|rfl|rfl|rfl|rfl|rfl|rfl|rfl<;>simp[w]<;>exact fin _ _ l dB dB
 by_cases M:c=6\/c=7
 ·obtain⟨k,C,h,A,l,t⟩:=o g 2 dB dB;rcases M with rfl|rfl<;>simp[Tryz.f100,p,n,h]<;>exact fin _ _ l dB dB
 by_cases L:c=20\/c=21
 ·obtain⟨k,C,h,A,l,t⟩:=o g 3 dB dB;have a1:binop .add (dG f) (dG 1)=some (dG (f+1)):=za rfl dB dB;have a2:binop .add (dG (f+1)) (dG (k:Int))=some (dG (f+1+k)):=za rfl dB dB;have a3:=Dt (k:= .i64) (a:=f+1+k) (b:=4) dB;have t0:=Int.tmod_nonneg 4 (show 0<=f+1+k by omega);rcases L with rfl|rfl<;>simp[Tryz.f100,p,n,E,h,a1,a2,a3]<;>exact fin _ _ l dB dB
 have D:∀d:Int,-1<=d->yf e (dG d) (TI.hr e) (sN ⟨m,b,j,c,f⟩ [.ptr b 0 0 0,dG c,dG f] e):=λd r=>wc g q z λs u=>⟨d,rfl,r,λN=>(B N).elim,u,s⟩;rcases(by omega:c=1\/c=2\/c=5\/c=8\/c=9\/c=10\/c=11\/c=12\/c=13\/c=14\/c=15\/c=16\/c=17\/c=18\/c=19\/c=22\/c=23)with rfl|rfl|rfl|rfl|rfl|rfl|rfl|rfl|rfl|rfl|rfl|rfl|rfl|rfl|rfl|rfl|rfl<;>simp[Tryz.f100,n]<;>exact D _ dB 
structure IB where
 (L:List Int) (b p:Nat) (s:eG) (k o:Int)
def zH(a:IB)(d:List T)(c:H):Prop:=d=[.ptr a.b 0 0 0,a.s.t,dG a.k,dG a.o]/\vm a.p a.L a.b c/\ij 0 c/\okB a.L/\(a.k=3->0<=a.o/\a.o<a.s.cells.length)/\1<=a.s.ei.length/\a.s.fO.dM.length<=98
def sM(a:IB)(g:List T)(d:H)(e:T)(c:H):Prop:=∃f:Int,e= dG f/\vm a.p a.L a.b c/\Sm a.b d c
def WN{tb:fN}(ht:tb.p 150=some yy.jx){s:eG}(c:s.fO.dM.length<=1000):∃a:List Int,a.length<=s.fO.dM.length/\rl Tryz.prog cx tb 150 [s.t]=some (sl (a.map (T.int .i64))):=by
 obtain⟨_,⟨a,rfl,hl⟩,b⟩:=yy.use s c;exact⟨a,hl,b ht⟩
def aac:(jF IB zH sM).Ok Tryz.prog cx 101:=by
 refine qJ (tb:=⟨pt [(150,yy.jx)],ht [(63,kE)]⟩) fc fa (je 141296388017967 [] Tryz.func101) (λ_ _=>5) (λi a c W=>by obtain⟨rfl,_⟩:=W;simp[Tryz.f101]) ?_;rintro⟨p,d,n,s,b,g⟩ _ c ⟨rfl,C,z,E,v,S,X⟩ an F;simp only at C E v S X;simp at F;obtain⟨u,k,l,R⟩:=F;have G:=C.tp.lt;have o:=(sY.refl z.hr (C.eq (gF c d))).cons (dI 7 0 [s.t]);have q:=o.next (tb:=⟨pt [(150,yy.jx)],ht [(63,kE)]⟩) dC E;have j:∀e:Int,yf c (dG e) _ (sM ⟨p,d,n,s,b,g⟩ [.ptr d 0 0 0,s.t,dG b,dG g] c):=λe=>wc o z G λA B=>⟨e,rfl,B,A⟩;have fin:∀(r:H) (e:Int),sY (n+1) p d (TI.hr c) r->yf c (dG e) r (sM ⟨p,d,n,s,b,g⟩ [.ptr d 0 0 0,s.t,dG b,dG g] c):=λr e o=>wc (o.le (Nat.le_succ n)) z G λA B=>⟨e,rfl,B,A⟩;have al:(d=c.size)=False:=dD;by_cases x:b=3
 ·obtain⟨y,U⟩:∃y:Nat,g=y:=⟨g.toNat,by have:=v x;omega⟩;have V:y<s.cells.length:=by have:=v x;omega
  subst x;subst U;simp[Tryz.f101,k,l,R,V];exact j _
 by_cases Y:b=23
 ·subst Y;simp[Tryz.f101,k,l,show 0<s.ei.length by omega];exact j _
 by_cases Z:b=4\/b=22
 ·obtain⟨w,L,h,I,m,K⟩:=q 3 dB dB;rcases Z with rfl|rfl<;>simp[Tryz.f101,u,k,l,h]<;>exact fin _ _ m
 by_cases ae:b=5
 ·obtain⟨w,L,h,I,m,K⟩:=q 2 dB dB;subst ae;simp[Tryz.f101,u,k,l,h];exact fin _ _ m
 have O:decide (b=3)=false:=aR dB;have N:decide (b=23)=false:=aR dB;have P:decide (b=4)=false:=aR dB;have M:decide (b=22)=false:=aR dB;have Q:decide (b=5)=false:=aR dB;obtain⟨J,hl,D⟩:=WN (tb:=⟨pt [(150,yy.jx)],ht [(63,kE)]⟩) dC (s:=s) dB;simp[Tryz.f101,k,l,O,N,P,M,Q];refine em (λf=> ?_) (λf=> ?_)
 ·simp[D];refine em (λf=> ?_) (λf=> ?_)
  ·obtain⟨w,L,h,I,m,K⟩:=q J.length (by simp at f;omega) dB;have T:w<J.length:=dB;simp[u,h,T];exact fin _ _ m
  ·simp;exact j _
 simp;refine em (λf=> ?_) (λf=> ?_)
 ·simp[D];exact j _
 ·simp;exact j _
end
end Go.Proofs.YtmaeadedikngoaaGreatDoor
