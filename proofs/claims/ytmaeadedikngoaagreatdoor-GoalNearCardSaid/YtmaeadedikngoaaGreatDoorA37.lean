/- Texts W09h to W09h. -/
import Derived.Test.YtmaeadedikngoaaGreatDoorA35
import Derived.Test.YtmaeadedikngoaaGreatDoorA36
set_option linter.all false
set_option maxRecDepth 100000
set_option maxHeartbeats 8000000
namespace Go.Proofs.YtmaeadedikngoaaGreatDoor
noncomputable section
open Go Go.TI
attribute [-simp] List.map_take List.map_drop List.map_append fw eQ dZ Bool.not_or Bool.not_and
attribute [simp] fq eY
def ab1(b:T):Prop:=∃(a:jU) (c:iz),b= .tuple [a.t,c.t]/\I4 a.dK/\a.dK.length<=80
def JR:m6 Tryz.prog cx 42 (λi:jz×List iR=>[i.1.t,sl (i.2.map iR.t)]) (λi=>(∀o∈i.1.dE,o.iW.length<=10000001)/\i.2.length<=80) (λ_=>ab1):=by
 refine jd (tb:=⟨pt [(74,vV.jf),(76,Dt.jf)],ht [(75,js IFr SY Nm)]⟩) ew ej (iQ 1271 [(3,[(0,2),(2,8),(4,8)]),(4,[(4,5)])] Tryz.func42) (λ_=>105) (λi r l=>by simp at l;exact aP (jz.inj l.1) (jw (λ_ _ l=>iR.inj l) l.2)) dt (by simp[Tryz.f42]) ?_;rintro⟨k,A⟩ ⟨n,x⟩ an y;simp only at n x;simp at y;obtain⟨w,I⟩:=y;obtain⟨_,⟨r,rfl,al⟩,u⟩:=vV.use k n;obtain⟨_,⟨N,rfl,P,D⟩,B⟩:=Dt.use k n;cases r with
 |false=>
  simp[Tryz.f42,w,u];exact⟨⟨⟨[],[],[],[],[],[]⟩,[]⟩,⟨⟨[],0,[],[]⟩,[],[],[]⟩,rfl,λe J=>by simp at J,dt⟩
 |true=>
  simp[Tryz.f42,w,I,u,B];generalize j:((hE.cons _).cons _).cons _=h;have M:gF 0 h:=by rw[<-j];exact⟨dt,dt,dt⟩
  have ae:h.size=3:=by rw[<-j];rfl
  have T:h.get 0=some (dA 7 0 [k.t]):=by rw[<-j];simp
  have U:h.get 1=some (dA 7 0 [.agg [dz,dz,dz,dz,dz,dz,dz]]):=by rw[<-j];simp
  have V:h.get 2=some (dA 7 0 [.agg [dz,dy 0,dz,dz,dz,dz,dz]]):=by rw[<-j];simp
  clear j;refine lP NU dt ⟨k,N,A⟩ ⟨rfl,M,n,P,D,x⟩ ?_;rintro _ b ⟨z,d,S,rfl,m,s,f,C,hl⟩;have Z:=f.ok.sz;rw[ae]at s Z;have a0:=(f.get 0 dq).trans T;have a1:=(f.get 1 dq).trans U;have a2:=(f.get 2 dq).trans V;have sv:=λa (K:a<h.size)=>ff (f.get a K);have Q:=sv 0 dq;have W:(0=b.size)=False:=du;have X:(1=b.size)=False:=du;have Y:(2=b.size)=False:=du;have L:=f.ok.low;have O:eJ h b b.size=true:=iV (lm _ f.ok.sz);have okB:gF 0 (b.cons (dA 7 1 [d.t])):=gF.cons ⟨f.ok.hp,f.ok.low,aw _⟩ _;have q:∀a,(b.cons (dA 7 1 [d.t])).get a=if a=b.size then some (dA 7 1 [d.t])else b.get a:=λa=>dP ..;have v:=(q 1).trans ((ao dq).trans a1);have p:∀c a,(dT (b.cons (dA 7 1 [d.t])) 1 c).get a=if a=1 then some c else if a=b.size then some (dA 7 1 [d.t])else b.get a:=λc a=>(dI v c a).trans (by rw[q]);have G:=λc=>(p c 2).trans ((ao dq).trans ((ao dq).trans a2));have G2:∀c g a,(dT (dT (b.cons (dA 7 1 [d.t])) 1 c) 2 g).get a=if a=2 then some g else if a=1 then some c else if a=b.size then some (dA 7 1 [d.t])else b.get a:=λc g a=>(dI (G c) g a).trans (by rw[p]);have R:∀c,eJ (b.cons (dA 7 1 [d.t])) (dT (b.cons (dA 7 1 [d.t])) 1 c) b.size=true:=λc=>mB v dq c;have ap:(b.size=1)=False:=du;have E:∀c g,TI.fz (dT (dT (b.cons (dA 7 1 [d.t])) 1 c) 2 g) S=some (sl (z.map ed.t)):=λc g=>(m.mono (h':=dT (dT (b.cons (dA 7 1 [d.t])) 1 c) 2 g) λa o=>by
   obtain⟨_,_,_,_,F,_⟩:=m.box o;have:=H.ez F;have:=s a o;rw[G2,ao dq,ao dq,ao dq]).fz dt
  simp[m.gJ,m.cells,a0,a1,a2,Q,W,X,Y,L,O,dS,p,G2,R,E,q,f.ok.hp];exact⟨⟨k.eK,z⟩,d,rfl,C,hl⟩
def Gt:m6 Tryz.prog cx 43 (λc:List Int=>[sl (c.map (T.int .u8))]) okB (λ_ l=>∃a:jz,l=a.t/\∀m∈a.dE,m.iW.length<=10000001):=by
 refine jd (tb:=⟨pt [(77,NO.jf),(59,Ag.jf)],ht []⟩) ew ej (iQ 13 [] Tryz.func43) (λ_=>105) (λn o b=>by simp at b;exact jw (λ_ _ b=>by simpa using b) b) dt (by simp[Tryz.f43]) ?_;rintro c g r d;simp at d;obtain⟨_,⟨k,rfl,i,j⟩,e⟩:=NO.use c g;obtain⟨_,⟨a,p,q,rfl,h⟩,f⟩:=Ag.use k ⟨i,j⟩;simp[Tryz.f43,d,e,f];exact⟨a,rfl,h⟩
def abS(b:T):Prop:=∃a:jU,b=a.t/\I4 a.dK/\a.dK.length<=80
def Dp:m6 Tryz.prog cx 19 (λa:List Int×List Int=>[sl (a.1.map (T.int .u8)),sl (a.2.map (T.int .u8))]) (λa=>okB a.1/\okB a.2/\a.2.length<=80) (λ_=>abS):=by
 refine jd (tb:=⟨pt [(43,Gt.jf),(44,Dy.jf),(42,JR.jf)],ht []⟩) ew ej (iQ 51 [] Tryz.func19) (λ_=>105) (λa s b=>by simp at b;exact aP (jw (λ_ _ b=>by simpa using b) b.1) (jw (λ_ _ b=>by simpa using b) b.2)) dt (by simp[Tryz.f19]) ?_;rintro⟨i,h⟩ ⟨e,d,p⟩ v f;simp only at e d p;simp at f;obtain⟨n,o⟩:=f;obtain⟨_,⟨j,rfl,q⟩,k⟩:=Gt.use i e;obtain⟨_,⟨g,rfl,t⟩,l⟩:=Dy.use h ⟨d,dq⟩;obtain⟨_,⟨r,u,rfl,m,hl⟩,c⟩:=JR.use (j,g) ⟨q,dw⟩;simp only at c;simp[Tryz.f19,n,o,k,l,c];exact⟨r,rfl,m,hl⟩
end
end Go.Proofs.YtmaeadedikngoaaGreatDoor
