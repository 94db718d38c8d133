/- Texts W09h to W09h. -/
import Derived.Test.YtmaeadedikngoaaGreatDoorA35
import Derived.Test.YtmaeadedikngoaaGreatDoorA36
set_option linter.unusedVariables false
set_option linter.unusedSimpArgs false
set_option linter.defProp false
set_option maxRecDepth 100000
set_option maxHeartbeats 8000000
namespace Go.Proofs.YtmaeadedikngoaaGreatDoor
noncomputable section
open Go Go.TI
attribute [-simp] List.map_take List.map_drop List.map_append fj eG dY Bool.not_or Bool.not_and
attribute [simp] fh eJ
def abR(b:T):Prop:=∃(a:jQ) (c:iu),b= .tuple [a.t,c.t]/\IV a.dH/\a.dH.length<=80
def JJ:mU Tryz.prog cx 42 (λi:jv×List iN=>[i.1.t,sl (i.2.map iN.t)]) (λi=>(∀o∈i.1.dB,o.iS.length<=10000001)/\i.2.length<=80) (λ_=>abR):=by
 refine iZ (tb:=⟨pt [(74,vL.jb),(76,DH.jb)],ht [(75,jp IFr SI M9)]⟩) ei eg (iL 1271 [(3,[(0,2),(2,8),(4,8)]),(4,[(4,5)])] Tryz.func42) (λ_=>105) (λi r l=>by simp at l;exact aP (jv.inj l.1) (jt (λ_ _ l=>iN.inj l) l.2)) dp (by simp[Tryz.f42]) ?_;rintro⟨k,A⟩ ⟨n,x⟩ an y;simp only at n x;simp at y;obtain⟨w,I⟩:=y;obtain⟨_,⟨r,rfl,al⟩,u⟩:=vL.use k n;obtain⟨_,⟨N,rfl,P,D⟩,B⟩:=DH.use k n;cases r with
 |false=>
  simp[Tryz.f42,w,u];exact⟨⟨⟨[],[],[],[],[],[]⟩,[]⟩,⟨⟨[],0,[],[]⟩,[],[],[]⟩,rfl,λe J=>by simp at J,dp⟩
 |true=>
  simp[Tryz.f42,w,I,u,B];generalize j:((hE.cons _).cons _).cons _=h;have M:gu 0 h:=by rw[<-j];exact⟨dp,dp,dp⟩
  have ae:h.size=3:=by rw[<-j];rfl
  have T:h.get 0=some (dy 7 0 [k.t]):=by rw[<-j];simp
  have U:h.get 1=some (dy 7 0 [.agg [dx,dx,dx,dx,dx,dx,dx]]):=by rw[<-j];simp
  have V:h.get 2=some (dy 7 0 [.agg [dx,dw 0,dx,dx,dx,dx,dx]]):=by rw[<-j];simp
  clear j;refine lJ NI dp ⟨k,N,A⟩ ⟨rfl,M,n,P,D,x⟩ ?_;rintro _ b ⟨z,d,S,rfl,m,s,f,C,hl⟩;have Z:=f.ok.sz;rw[ae]at s Z;have a0:=(f.get 0 dj).trans T;have a1:=(f.get 1 dj).trans U;have a2:=(f.get 2 dj).trans V;have sv:=λa (K:a<h.size)=>eZ (f.get a K);have Q:=sv 0 dj;have W:(0=b.size)=False:=dq;have X:(1=b.size)=False:=dq;have Y:(2=b.size)=False:=dq;have L:=f.ok.low;have O:ew h b b.size=true:=iR (lf _ f.ok.sz);have okB:gu 0 (b.cons (dy 7 1 [d.t])):=gu.cons ⟨f.ok.hp,f.ok.low,aw _⟩ _;have q:∀a,(b.cons (dy 7 1 [d.t])).get a=if a=b.size then some (dy 7 1 [d.t])else b.get a:=λa=>dM ..;have v:=(q 1).trans ((ao dj).trans a1);have p:∀c a,(dQ (b.cons (dy 7 1 [d.t])) 1 c).get a=if a=1 then some c else if a=b.size then some (dy 7 1 [d.t])else b.get a:=λc a=>(dE v c a).trans (by rw[q]);have G:=λc=>(p c 2).trans ((ao dj).trans ((ao dj).trans a2));have G2:∀c g a,(dQ (dQ (b.cons (dy 7 1 [d.t])) 1 c) 2 g).get a=if a=2 then some g else if a=1 then some c else if a=b.size then some (dy 7 1 [d.t])else b.get a:=λc g a=>(dE (G c) g a).trans (by rw[p]);have R:∀c,ew (b.cons (dy 7 1 [d.t])) (dQ (b.cons (dy 7 1 [d.t])) 1 c) b.size=true:=λc=>mv v dj c;have ap:(b.size=1)=False:=dq;have E:∀c g,TI.fz (dQ (dQ (b.cons (dy 7 1 [d.t])) 1 c) 2 g) S=some (sl (z.map dX.t)):=λc g=>(m.mono (h':=dQ (dQ (b.cons (dy 7 1 [d.t])) 1 c) 2 g) λa o=>by
   obtain⟨_,_,_,_,F,_⟩:=m.box o;have:=H.ej F;have:=s a o;rw[G2,ao dj,ao dj,ao dj]).fz dp
  simp[m.gD,m.cells,a0,a1,a2,Q,W,X,Y,L,O,dP,p,G2,R,E,q,f.ok.hp];exact⟨⟨k.ez,z⟩,d,rfl,C,hl⟩
def Gw:mU Tryz.prog cx 43 (λc:List Int=>[sl (c.map (T.int .u8))]) okB (λ_ l=>∃a:jv,l=a.t/\∀m∈a.dB,m.iS.length<=10000001):=by
 refine iZ (tb:=⟨pt [(77,NB.jb),(59,z8.jb)],ht []⟩) ei eg (iL 13 [] Tryz.func43) (λ_=>105) (λn o b=>by simp at b;exact jt (λ_ _ b=>by simpa using b) b) dp (by simp[Tryz.f43]) ?_;rintro c g r d;simp at d;obtain⟨_,⟨k,rfl,i,j⟩,e⟩:=NB.use c g;obtain⟨_,⟨a,p,q,rfl,h⟩,f⟩:=z8.use k ⟨i,j⟩;simp[Tryz.f43,d,e,f];exact⟨a,rfl,h⟩
def abI(b:T):Prop:=∃a:jQ,b=a.t/\IV a.dH/\a.dH.length<=80
def DF:mU Tryz.prog cx 19 (λa:List Int×List Int=>[sl (a.1.map (T.int .u8)),sl (a.2.map (T.int .u8))]) (λa=>okB a.1/\okB a.2/\a.2.length<=80) (λ_=>abI):=by
 refine iZ (tb:=⟨pt [(43,Gw.jb),(44,DP.jb),(42,JJ.jb)],ht []⟩) ei eg (iL 51 [] Tryz.func19) (λ_=>105) (λa s b=>by simp at b;exact aP (jt (λ_ _ b=>by simpa using b) b.1) (jt (λ_ _ b=>by simpa using b) b.2)) dp (by simp[Tryz.f19]) ?_;rintro⟨i,h⟩ ⟨e,d,p⟩ v f;simp only at e d p;simp at f;obtain⟨n,o⟩:=f;obtain⟨_,⟨j,rfl,q⟩,k⟩:=Gw.use i e;obtain⟨_,⟨g,rfl,t⟩,l⟩:=DP.use h ⟨d,dj⟩;obtain⟨_,⟨r,u,rfl,m,hl⟩,c⟩:=JJ.use (j,g) ⟨q,dt⟩;simp only at c;simp[Tryz.f19,n,o,k,l,c];exact⟨r,rfl,m,hl⟩
end
end Go.Proofs.YtmaeadedikngoaaGreatDoor
