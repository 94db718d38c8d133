/- Texts V06 to V06. -/
import Derived.Test.YtmaeadedikngoaaGreatDoorA25
import Derived.Test.YtmaeadedikngoaaGreatDoorA29
set_option linter.all false
set_option maxRecDepth 100000
set_option maxHeartbeats 8000000
namespace Go.Proofs.YtmaeadedikngoaaGreatDoor
noncomputable section
open Go Go.TI
attribute [-simp] List.map_take List.map_drop List.map_append fw eQ dZ Bool.not_or Bool.not_and
attribute [simp] fq eY
def Ub(a:fP):Prop:=∀c∈a.iW,∀b∈iH c,0<=b/\b<a.iE
def TY(a:fP):Prop:=0<=a.iE/\a.iE<=32/\Ub a
def Bn(a:fI):(iH a).length<=3:=by
 unfold iH
 (repeat' split)<;>simp
def Dq:m6 Tryz.prog cx 115 (λa:dU×Int×fP=>[a.1.t,dy a.2.1,a.2.2.t]) (λa=>a.2.2.iW.length<=10000001) (λa=>LH (TY a.2.2)):=by
 refine jd (tb:=⟨pt [(160,sW),(161,yT),(162,SK ()),(97,mE)],ht []⟩) ew ej (iQ 348794743007212715313826391199890521722863 [] Tryz.func115) (λa=>a.2.2.iW.length+5) (λa b h=>by simp at h;exact aP (dU.inj h.1) (aP h.2.1 (fP.inj h.2.2))) dt (by simp[Tryz.f115]) ?_;rintro⟨u,O,e⟩ hl d K;simp at hl K;obtain⟨P,j,Q⟩:=K;simp[Tryz.f115,P,Q];refine dW (λf=> ?_) (λf=> ?_)
 ·simp
 simp at f;simp;refine fh e.iW.length dq (λq d h=>gF 2 h/\h.get 0=some (dA 6 0 [u.t])/\h.get 1=some (dA 2 0 [e.t])/\dB d 1 (dy O)/\dB d 3 (.ptr 0 0 0 0)/\dB d 5 (.ptr 1 0 0 0)/\dB d 7 (dy e.iW.length)/\dB d 8 (dy q)/\
  ∀I∈e.iW.take q,∀s∈iH I,0<=s/\s<e.iE) ?_ ?_ dq ?_
 ·rintro q d h M R ⟨i,l,m,j,n,o,k,p,D⟩;have F:=i.ne (b:=0) dq;have N:=i.ne (b:=1) dq;have H:e.iW.take (q+1)=e.iW.take q++[e.iW[q]]:=aU M;have V:=kP (a:=e.iW.length) (b:=1) dq dq;simp[l,m,n,o,k,p,M,F,N,i.low,V,Pj,Vx,show e.iW.length<=140737488355328 by omega];generalize e.iW[q]=c at*
  refine dW (λf=> ?_) (λf=> ?_)
  ·simp[i.hp]
  clear f;have X:(decide (c.op=28)=true/\True/\True/\∃g:ir,g=g)\/(decide (c.op=28)=false/\iT c.iS u.iq.length=false/\True/\∃g:ir,g=g)\/(decide (c.op=28)=false/\iT c.iS u.iq.length=true/\jX c.iS=some c.iS.toNat/\∃g,u.iq[c.iS.toNat]? =some g):=by
   cases Y:decide (c.op=28)
   ·cases J:iT c.iS u.iq.length
    ·exact .inr (.inl ⟨rfl,rfl,trivial,default,rfl⟩)
    ·obtain⟨g,W,Z⟩:=iu J;exact .inr (.inr ⟨rfl,rfl,ei (fj.1 J).1,g,W⟩)
   ·exact .inl ⟨rfl,trivial,trivial,default,rfl⟩
  rcases X with⟨x,y,z,g,A⟩|⟨x,y,z,g,A⟩|⟨x,y,z,g,A⟩
  all_goals simp [l,j,n,F,x,y,z,A,uC,i.hp]
  all_goals
   refine dW (λf=> ?_) (λf=> ?_)
   ·simp[i.hp]
   simp[k,uC];clear f x y z A;refine dW (λf=> ?_) (λf=> ?_)
   ·simp[i.hp]
   simp[us]
  all_goals
   refine fh (iH c).length (by have:=Bn c;omega) (λr d v=>gF 2 v/\v.get 0=some (dA 6 0 [u.t])/\v.get 1=some (dA 2 0 [e.t])/\dB d 1 (dy O)/\dB d 3 (.ptr 0 0 0 0)/\dB d 5 (.ptr 1 0 0 0)/\dB d 7 (dy e.iW.length)/\dB d 8 (dy q)/\
    dB d 10 (sl ((iH c).map (T.int .i64)))/\dB d 11 (dy r)/\∀s∈(iH c).take r,0<=s/\s<e.iE) ?_ ?_ (by have:=Bn c;omega) ⟨i.cons _,by simp[l,m,j,n,o,k,p,F,N]⟩
   ·rintro r d v L S ⟨E,l,m,j,n,o,k,p,B,C,hr⟩;have H:(iH c).take (r+1)=(iH c).take r++[(iH c)[r]]:=aU L;simp[m,o,B,C,L,uC];generalize(iH c)[r]=s at*
    refine dW (λf=> ?_) (λf=> ?_)
    ·simp[E.hp]
    ·have U:=OH.1 (show IR s e.iE=true by simpa using f);simp[l,m,j,n,o,k,p,B,C,S,E,H];intro w G;rcases G with G|rfl
     ·exact hr w G
     ·exact U
   ·rintro d v ⟨E,l,m,j,n,o,k,p,B,C,hr⟩;rw[aL]at hr;simp[l,m,j,n,o,k,p,B,C,R,E,H];intro I w;rcases w with w|rfl
    ·exact D I w
    ·exact hr
 ·rintro d h ⟨i,l,m,j,n,o,k,p,D⟩;rw[aL]at D;simp[k,p,i.hp];exact⟨f.1.1,f.1.2,D⟩
 ·exact⟨⟨dt,dt,dt⟩,by simp[j]⟩
def OZ(a:jz):Prop:=jO a.eK=true/\a.dE.length=a.eK.dE.length/\∀b∈a.dE,TY b
def vV:m6 Tryz.prog cx 74 (λa:jz=>[a.t]) (λa=>∀k∈a.dE,k.iW.length<=10000001) (λa=>LH (OZ a)):=by
 refine jd (tb:=⟨pt [(67,uT),(115,Dq.jf)],ht []⟩) ew ej (iQ 17184194575 [] Tryz.func74) (λa=>100) (λw n c=>by simp at c;exact jz.inj c) dt (by simp[Tryz.f74]) ?_;rintro a hl d p;simp at p;simp[Tryz.f74,p,yv];refine dW (λh=> ?_) (λh=> ?_)
 ·simp
 simp at h;have x:a.eK.dE.length<=4:=by
  have:=h.1;unfold jO rK at this;simp only[aB,aO]at this;omega
 have s:a.dE.length=a.eK.dE.length:=dq;simp;refine fh a.dE.length dq (λb d c=>gF 1 c/\c.get 0=some (dA 7 0 [a.t])/\dB d 1 (.ptr 0 0 0 0)/\dB d 3 (dy b)/\∀k∈a.dE.take b,TY k) ?_ ?_ dq ⟨⟨dt,dt,dt⟩,dt⟩
 ·rintro b d c l r ⟨j,e,f,g,i⟩;have u:a.dE.take (b+1)=a.dE.take b++[a.dE[b]]:=aU l;obtain⟨_,⟨n,rfl,q⟩,o⟩:=Dq.use (a.eK,(b:Int),a.dE[b]) (hl _ (aF l));simp[e,f,g,l];generalize a.dE[b]=k at*
  simp only at o q;simp[o];cases n with
  |false=>simp[j.hp]
  |true=>
   simp[e,f,g,r,j,u];intro v m;rcases m with m|rfl
   ·exact i v m
   ·exact q rfl
 ·rintro d c ⟨j,e,f,g,i⟩;rw[aL]at i;simp[e,f,g,j.hp];exact⟨h.1,s,i⟩
end
end Go.Proofs.YtmaeadedikngoaaGreatDoor
