/- Texts V06 to V06. -/
import Derived.Test.YtmaeadedikngoaaGreatDoorA25
import Derived.Test.YtmaeadedikngoaaGreatDoorA29
set_option linter.unusedVariables false
set_option linter.unusedSimpArgs false
set_option linter.defProp false
set_option maxRecDepth 100000
set_option maxHeartbeats 8000000
namespace Go.Proofs.YtmaeadedikngoaaGreatDoor
noncomputable section
open Go Go.TI
attribute [-simp] List.map_take List.map_drop List.map_append fj eG dY Bool.not_or Bool.not_and
attribute [simp] fh eJ
def TZ(a:fM):Prop:=∀c∈a.iS,∀b∈iC c,0<=b/\b<a.iA
def TN(a:fM):Prop:=0<=a.iA/\a.iA<=32/\TZ a
def Bf(a:fF):(iC a).length<=3:=by
 unfold iC
 (repeat' split)<;>simp
def DG:mU Tryz.prog cx 115 (λa:dR×Int×fM=>[a.1.t,dw a.2.1,a.2.2.t]) (λa=>a.2.2.iS.length<=10000001) (λa=>Lx (TN a.2.2)):=by
 refine iZ (tb:=⟨pt [(160,sM),(161,yJ),(162,Sw ()),(97,my)],ht []⟩) ei eg (iL 348794743007212715313826391199890521722863 [] Tryz.func115) (λa=>a.2.2.iS.length+5) (λa b h=>by simp at h;exact aP (dR.inj h.1) (aP h.2.1 (fM.inj h.2.2))) dp (by simp[Tryz.f115]) ?_;rintro⟨u,O,e⟩ hl d K;simp at hl K;obtain⟨P,j,Q⟩:=K;simp[Tryz.f115,P,Q];refine dU (λf=> ?_) (λf=> ?_)
 ·simp
 simp at f;simp;refine fc e.iS.length dj (λq d h=>gu 2 h/\h.get 0=some (dy 6 0 [u.t])/\h.get 1=some (dy 2 0 [e.t])/\dz d 1 (dw O)/\dz d 3 (.ptr 0 0 0 0)/\dz d 5 (.ptr 1 0 0 0)/\dz d 7 (dw e.iS.length)/\dz d 8 (dw q)/\
  ∀I∈e.iS.take q,∀s∈iC I,0<=s/\s<e.iA) ?_ ?_ dj ?_
 ·rintro q d h M R ⟨i,l,m,j,n,o,k,p,D⟩;have F:=i.ne (b:=0) dj;have N:=i.ne (b:=1) dj;have H:e.iS.take (q+1)=e.iS.take q++[e.iS[q]]:=aU M;have V:=kL (a:=e.iS.length) (b:=1) dj dj;simp[l,m,n,o,k,p,M,F,N,i.low,V,O8,Vm,show e.iS.length<=140737488355328 by omega];generalize e.iS[q]=c at*
  refine dU (λf=> ?_) (λf=> ?_)
  ·simp[i.hp]
  clear f;have X:(decide (c.op=28)=true/\True/\True/\∃g:il,g=g)\/(decide (c.op=28)=false/\iP c.iO u.ik.length=false/\True/\∃g:il,g=g)\/(decide (c.op=28)=false/\iP c.iO u.ik.length=true/\jT c.iO=some c.iO.toNat/\∃g,u.ik[c.iO.toNat]? =some g):=by
   cases Y:decide (c.op=28)
   ·cases J:iP c.iO u.ik.length
    ·exact .inr (.inl ⟨rfl,rfl,trivial,default,rfl⟩)
    ·obtain⟨g,W,Z⟩:=im J;exact .inr (.inr ⟨rfl,rfl,ed (ff.1 J).1,g,W⟩)
   ·exact .inl ⟨rfl,trivial,trivial,default,rfl⟩
  rcases X with⟨x,y,z,g,A⟩|⟨x,y,z,g,A⟩|⟨x,y,z,g,A⟩
  all_goals simp [l,j,n,F,x,y,z,A,uw,i.hp]
  all_goals
   refine dU (λf=> ?_) (λf=> ?_)
   ·simp[i.hp]
   simp[k,uw];clear f x y z A;refine dU (λf=> ?_) (λf=> ?_)
   ·simp[i.hp]
   simp[uj]
  all_goals
   refine fc (iC c).length (by have:=Bf c;omega) (λr d v=>gu 2 v/\v.get 0=some (dy 6 0 [u.t])/\v.get 1=some (dy 2 0 [e.t])/\dz d 1 (dw O)/\dz d 3 (.ptr 0 0 0 0)/\dz d 5 (.ptr 1 0 0 0)/\dz d 7 (dw e.iS.length)/\dz d 8 (dw q)/\
    dz d 10 (sl ((iC c).map (T.int .i64)))/\dz d 11 (dw r)/\∀s∈(iC c).take r,0<=s/\s<e.iA) ?_ ?_ (by have:=Bf c;omega) ⟨i.cons _,by simp[l,m,j,n,o,k,p,F,N]⟩
   ·rintro r d v L S ⟨E,l,m,j,n,o,k,p,B,C,hr⟩;have H:(iC c).take (r+1)=(iC c).take r++[(iC c)[r]]:=aU L;simp[m,o,B,C,L,uw];generalize(iC c)[r]=s at*
    refine dU (λf=> ?_) (λf=> ?_)
    ·simp[E.hp]
    ·have U:=Oq.1 (show IJ s e.iA=true by simpa using f);simp[l,m,j,n,o,k,p,B,C,S,E,H];intro w G;rcases G with G|rfl
     ·exact hr w G
     ·exact U
   ·rintro d v ⟨E,l,m,j,n,o,k,p,B,C,hr⟩;rw[aL]at hr;simp[l,m,j,n,o,k,p,B,C,R,E,H];intro I w;rcases w with w|rfl
    ·exact D I w
    ·exact hr
 ·rintro d h ⟨i,l,m,j,n,o,k,p,D⟩;rw[aL]at D;simp[k,p,i.hp];exact⟨f.1.1,f.1.2,D⟩
 ·exact⟨⟨dp,dp,dp⟩,by simp[j]⟩
def OP(a:jv):Prop:=jK a.ez=true/\a.dB.length=a.ez.dB.length/\∀b∈a.dB,TN b
def vL:mU Tryz.prog cx 74 (λa:jv=>[a.t]) (λa=>∀k∈a.dB,k.iS.length<=10000001) (λa=>Lx (OP a)):=by
 refine iZ (tb:=⟨pt [(67,uN),(115,DG.jb)],ht []⟩) ei eg (iL 17184194575 [] Tryz.func74) (λa=>100) (λw n c=>by simp at c;exact jv.inj c) dp (by simp[Tryz.f74]) ?_;rintro a hl d p;simp at p;simp[Tryz.f74,p,ym];refine dU (λh=> ?_) (λh=> ?_)
 ·simp
 simp at h;have x:a.ez.dB.length<=4:=by
  have:=h.1;unfold jK rG at this;simp only[aB,aO]at this;omega
 have s:a.dB.length=a.ez.dB.length:=dj;simp;refine fc a.dB.length dj (λb d c=>gu 1 c/\c.get 0=some (dy 7 0 [a.t])/\dz d 1 (.ptr 0 0 0 0)/\dz d 3 (dw b)/\∀k∈a.dB.take b,TN k) ?_ ?_ dj ⟨⟨dp,dp,dp⟩,dp⟩
 ·rintro b d c l r ⟨j,e,f,g,i⟩;have u:a.dB.take (b+1)=a.dB.take b++[a.dB[b]]:=aU l;obtain⟨_,⟨n,rfl,q⟩,o⟩:=DG.use (a.ez,(b:Int),a.dB[b]) (hl _ (aF l));simp[e,f,g,l];generalize a.dB[b]=k at*
  simp only at o q;simp[o];cases n with
  |false=>simp[j.hp]
  |true=>
   simp[e,f,g,r,j,u];intro v m;rcases m with m|rfl
   ·exact i v m
   ·exact q rfl
 ·rintro d c ⟨j,e,f,g,i⟩;rw[aL]at i;simp[e,f,g,j.hp];exact⟨h.1,s,i⟩
end
end Go.Proofs.YtmaeadedikngoaaGreatDoor
