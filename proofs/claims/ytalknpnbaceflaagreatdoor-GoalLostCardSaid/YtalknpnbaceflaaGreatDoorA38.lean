/- X23 -/
import Derived.Test.YtalknpnbaceflaaGreatDoorA33
set_option linter.all false
set_option maxRecDepth 100000
set_option maxHeartbeats 0
namespace Go.Proofs.YtalknpnbaceflaaGreatDoor
noncomputable section
open Go Go.TI Tryz
attribute [-simp] List.map_take List.map_drop List.map_append ij gG fK Bool.not_or Bool.not_and
attribute [simp] ig gJ
section
attribute [-simp] size_cons
def LsL(c:fg)(b:fT):Prop:=∀a,b.order.getLast?=some a->(kS c.ej a).fh=16->(j2 b.gu (kS c.ej a).eJ).je=3
def LsL.walk{a:fg}(o:lj a)(c:List Int):LsL a (ml a c [] (jI a)).2:=Bf (I:=LsL a) (λd h _ k=>by
 have⟨e,i,f,b,j⟩:=IH o k;rw[j];intro p l g;have m:ja a d h.eJ=p:=by simpa[uS]using l
 rw[<-m,i]at g|-;unfold iV at b;simp only[az]at b;have n:ju e.eJ ((d.gu.pO ((qB a.fM.iL e.obj).getD default).kU λc=>{c with jg:=-1})).ee.length=true:=by
  show ju _ d.gu.ee.length=true;rw[(kY b.1.1.1).2.2,f];exact b.1.1.2
 simp only[uS,g,fZ];simp;rw[<-f,xa n]) c [] (jI a) (by simp[LsL,jI])
def Nm{f:fg}{d:fT}{c:jm}(h:LsL f d)(g:c.fh=3)(e:f.gx.vR c=true)(hr:mH f d c=true):(j2 d.gu (kS f.ej c.b).eJ).je=3/\c.a∈d.order:=by
 unfold mH at hr;unfold GX.vR GX.Zl at e;rw[Z B,Z B,au g]at hr;rw[Z B]at e;simp[g]at e hr;exact⟨h _ hr.1.1 e.2.2.1.1.1.1.1.2,hr.1.2⟩
def WH:BA.Ok prog cx 3:=by
 refine iF [(6,FB.kc),(8,DB),(7,Dz),(9,Bv),(10,xg),(11,sq),(12,D2),(13,Ff)] (jF 151115727452120704655223 [(4,[(0,2),(2,7),(3,7)])] func3) (λa=>1000005) (by simp[BA]) ?_;rintro⟨v,l⟩ ⟨T,O⟩ f Q;simp only at T O;simp[BA]at Q|-;obtain⟨ap,N⟩:=Q;simp[f3,ap,N];refine fN (λS=>?_) (λS=>?_)
 ·simp
 have⟨n,P,r,aN,A,aA,an,ae,Z,al,g,bi,aE,ab⟩:=FW T O (l:=l) (by simp at S;omega);simp[N,an,ae,Z,al,ab];refine ik g.length B (λm f h=>iQ 4 h/\h.get 1=some (X 15 1 [n.t])/\h.get 3=some (X 9 1 [r.t])/\Y f 5 (.fc 1 0 0 0)/\Y f 8 (.fc 3 0 0 0)/\Y f 10 (sl (g.map jm.t))/\Y f 11 (C m)) ?_ ?_ B ⟨⟨G,by simp[size_cons],G⟩,by simp[size_cons],by simp[size_cons],G⟩
 ·rintro m f h z F ⟨c,o,q,s,u,i,j⟩;have J:=c.ne (b:=1) B;have K:=c.ne (b:=3) B;have R:=aE g[m] (aG z);have E:=λ{a7:io} (ht:a7.p 11=some sq)=>JP ht n r g[m] A R;have⟨d,w⟩:∃d,d=g[m]:=⟨_,rfl⟩;rw[<-w]at R E;cases D:decide (d.fh=3)with
  |false=>simp[o,q,s,u,i,j,z,J,K,c.low,<-w,D,F,c.cons]
  |true=>
  cases H:mH n r d&&n.gx.vR d with
  |false=>simp[o,q,s,u,i,j,z,J,K,c.low,<-w,D,E,H,F,c.cons]
  |true=>
   have y:=H;simp only[az]at y;have aX:d.fh=3:=by simpa using D
   have⟨U,a6⟩:=Nm (aA▸LsL.walk aN l) aX y.2 y.1;have I:ju d.b n.ej.length=true:=by
    rcases Yu y.2 with⟨k,_⟩|⟨_,_,av,_,_⟩
    ·omega
    ·exact av
   have⟨e,L,V,a8,W,bg⟩:=A.hw.at I;have⟨x,t1,t2,t3⟩:=xc (A.hc.ft (pK I)) W;rw[ny (fQ.1 I).1 L,t3]at U;simp[o,q,s,u,i,j,z,J,K,c.low,<-w,D,E,H,L,V,t1,t2,U,RB,a6,show r.order.length<=1099511627776 by have:=A.od;omega,F,c.cons]
 ·rintro f h ⟨c,o,q,s,u,i,j⟩;simp[i,j,c.hp,N5]
