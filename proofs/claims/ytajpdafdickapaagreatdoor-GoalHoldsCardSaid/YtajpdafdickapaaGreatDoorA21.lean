/- V06 -/
import Derived.Test.YtajpdafdickapaaGreatDoorA12
import Derived.Test.YtajpdafdickapaaGreatDoorA20
set_option linter.all false
set_option maxRecDepth 100000
set_option maxHeartbeats 8000000
namespace Go.Proofs.YtajpdafdickapaaGreatDoor
noncomputable section
open Go Go.TI Tryz
attribute [-simp] List.map_take List.map_drop List.map_append fw eY eg Bool.not_or Bool.not_and
attribute [simp] fq eZ
def Xw(a:ge):Prop:=∀c∈a.jm,∀b∈jd c,0<=b/\b<a.iY
def Xj(a:ge):Prop:=0<=a.iY/\a.iY<=32/\Xw a
def CV(a:fR):(jd a).length<=3:=by
 unfold jd
 (repeat' split)<;>simp
def FI:oa prog cx 133 (λa:dZ×Int×ge=>[a.1.t,Z a.2.1,a.2.2.t]) (λa=>a.2.2.jm.length<=10000001) (λa=>Or (Xj a.2.2)):=by
 refine jk [(173,ww),(174,CY),(175,Xz ()),(106,oH)] (iQ 348794743007212715313826391199890521722863 [] func133) (λa=>a.2.2.jm.length+5) (λa b h=>by simp at h;exact aC (dZ.inj h.1) (aC h.2.1 (ge.inj h.2.2))) ?_;rintro⟨u,P,e⟩ hl d L;simp at hl L;obtain⟨Q,j,R⟩:=L;simp[f133,Q,R];refine ee (λf=>?_) (λf=>?_)
 ·simp
 simp at f;simp;refine fk e.jm.length J (λq d h=>hU 2 h/\h.get 0=some (dE 6 0 [u.t])/\h.get 1=some (dE 2 0 [e.t])/\dF d 1 (Z P)/\dF d 3 (.ptr 0 0 0 0)/\dF d 5 (.ptr 1 0 0 0)/\dF d 7 (Z e.jm.length)/\dF d 8 (Z q)/\
  ∀I∈e.jm.take q,∀s∈jd I,0<=s/\s<e.iY) ?_ ?_ J ?_
 ·rintro q d h N S ⟨i,l,m,j,n,o,k,p,D⟩;have F:=i.ne (b:=0) J;have O:=i.ne (b:=1) J;have H:e.jm.take (q+1)=e.jm.take q++[e.jm[q]]:=aR N;have W:=kx (a:=e.jm.length) (b:=1) J J;simp[l,m,n,o,k,p,N,F,O,i.low,W,Sp,YY,show e.jm.length<=140737488355328 by omega];generalize e.jm[q]=c at*
  refine ee (λf=>?_) (λf=>?_)
  ·simp[i.hp]
  clear f;have Y:(decide (c.op=28)=true/\True/\True/\∃g:iK,g=g)\/(decide (c.op=28)=false/\iP c.ji u.iJ.length=false/\True/\∃g:iK,g=g)\/(decide (c.op=28)=false/\iP c.ji u.iJ.length=true/\ks c.ji=some c.ji.toNat/\∃g,u.iJ[c.ji.toNat]? =some g):=by
   cases ae:decide (c.op=28)
   ·cases K:iP c.ji u.iJ.length
    ·exact .inr (.inl ⟨rfl,rfl,trivial,default,rfl⟩)
    ·have⟨g,X,al⟩:=iD K;exact .inr (.inr ⟨rfl,rfl,em (eQ.1 K).1,g,X⟩)
   ·exact .inl ⟨rfl,trivial,trivial,default,rfl⟩
  rcases Y with⟨x,y,z,g,A⟩|⟨x,y,z,g,A⟩|⟨x,y,z,g,A⟩
  all_goals simp [l,j,n,F,x,y,z,A,vS,i.hp]
  all_goals
   refine ee (λf=>?_) (λf=>?_)
   ·simp[i.hp]
   simp[k,vS];clear f x y z A;refine ee (λf=>?_) (λf=>?_)
   ·simp[i.hp]
   simp[vx]
  all_goals
   refine fk (jd c).length (by have:=CV c;omega) (λr d v=>hU 2 v/\v.get 0=some (dE 6 0 [u.t])/\v.get 1=some (dE 2 0 [e.t])/\dF d 1 (Z P)/\dF d 3 (.ptr 0 0 0 0)/\dF d 5 (.ptr 1 0 0 0)/\dF d 7 (Z e.jm.length)/\dF d 8 (Z q)/\
    dF d 10 (sl ((jd c).map (T.int .i64)))/\dF d 11 (Z r)/\∀s∈(jd c).take r,0<=s/\s<e.iY) ?_ ?_ (by have:=CV c;omega) ⟨i.cons _,by simp[l,m,j,n,o,k,p,F,O]⟩
   ·rintro r d v M U ⟨E,l,m,j,n,o,k,p,B,C,hr⟩;have H:(jd c).take (r+1)=(jd c).take r++[(jd c)[r]]:=aR M;simp[m,o,B,C,M,vS];generalize(jd c)[r]=s at*
    refine ee (λf=>?_) (λf=>?_)
    ·simp[E.hp]
    ·have V:=RC.1 (show K6 s e.iY=true by simpa using f);simp[l,m,j,n,o,k,p,B,C,U,E,H];intro w G;rcases G with G|rfl
     ·exact hr w G
     ·exact V
   ·rintro d v ⟨E,l,m,j,n,o,k,p,B,C,hr⟩;rw[aK]at hr;simp[l,m,j,n,o,k,p,B,C,S,E,H];intro I w;rcases w with w|rfl
    ·exact D I w
    ·exact hr
 ·rintro d h ⟨i,l,m,j,n,o,k,p,D⟩;rw[aK]at D;simp[k,p,i.hp];exact⟨f.1.1,f.1.2,D⟩
 ·exact⟨⟨dy,dy,dy⟩,by simp[j]⟩
def R1(a:jU):Prop:=ka a.ez=true/\a.dH.length=a.ez.dH.length/\∀b∈a.dH,Xj b
def xw:oa prog cx 88 (λa:jU=>[a.t]) (λa=>∀k∈a.dH,k.jm.length<=10000001) (λa=>Or (R1 a)):=by
 refine jk [(81,yr),(133,FI.jA)] (iQ 17184194575 [] func88) (λa=>100) (λw n c=>by simp at c;exact jU.inj c) ?_;rintro a hl d p;simp at p;simp[f88,p,Ap];refine ee (λh=>?_) (λh=>?_)
 ·simp
 simp at h;have x:a.ez.dH.length<=4:=by
  have:=h.1;unfold ka sX at this;simp only[ax,aI]at this;omega
 have s:a.dH.length=a.ez.dH.length:=J;simp;refine fk a.dH.length J (λb d c=>hU 1 c/\c.get 0=some (dE 7 0 [a.t])/\dF d 1 (.ptr 0 0 0 0)/\dF d 3 (Z b)/\∀k∈a.dH.take b,Xj k) ?_ ?_ J ⟨⟨dy,dy,dy⟩,dy⟩
 ·rintro b d c l r ⟨j,e,f,g,i⟩;have u:a.dH.take (b+1)=a.dH.take b++[a.dH[b]]:=aR l;obtain⟨_,⟨n,rfl,q⟩,o⟩:=FI.use (a.ez,(b:Int),a.dH[b]) (hl _ (aD l));simp[e,f,g,l];generalize a.dH[b]=k at*
  simp only at o q;simp[o];cases n with
  |false=>simp[j.hp]
  |true=>
   simp[e,f,g,r,j,u];intro v m;rcases m with m|rfl
   ·exact i v m
   ·exact q rfl
 ·rintro d c ⟨j,e,f,g,i⟩;rw[aK]at i;simp[e,f,g,j.hp];exact⟨h.1,s,i⟩
