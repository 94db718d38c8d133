/- V06 -/
import Derived.Test.YtajpdafdickapaaGreatDoorA12
import Derived.Test.YtajpdafdickapaaGreatDoorA20
set_option linter.all false
set_option maxRecDepth 100000
set_option maxHeartbeats 8000000
namespace Go.Proofs.YtajpdafdickapaaGreatDoor
noncomputable section
open Go Go.TI Tryz
attribute [-simp] List.map_take List.map_drop List.map_append fy fa eg Bool.not_or Bool.not_and
attribute [simp] fw fc
def Wn(a:gh):Prop:=∀c∈a.jm,∀b∈jb c,0<=b/\b<a.iZ
def Wa(a:gh):Prop:=0<=a.iZ/\a.iZ<=32/\Wn a
def C0(a:fR):(jb a).length<=3:=by
 unfold jb
 (repeat' split)<;>simp
def FA:nS prog cx 133 (λa:dY×Int×gh=>[a.1.t,Z a.2.1,a.2.2.t]) (λa=>a.2.2.jm.length<=10000001) (λa=>NK (Wa a.2.2)):=by
 refine jh [(173,wi),(174,C4),(175,Ws ()),(106,ox)] (iX 348794743007212715313826391199890521722863 [] func133) (λa=>a.2.2.jm.length+5) (λa b h=>by simp at h;exact aC (dY.inj h.1) (aC h.2.1 (gh.inj h.2.2))) ?_;rintro⟨u,P,e⟩ hl d L;simp at hl L;obtain⟨Q,j,R⟩:=L;simp[f133,Q,R];refine ej (λf=>?_) (λf=>?_)
 ·simp
 simp at f;simp;refine fD e.jm.length J (λq d h=>il 2 h/\h.get 0=some (dE 6 0 [u.t])/\h.get 1=some (dE 2 0 [e.t])/\dF d 1 (Z P)/\dF d 3 (.ptr 0 0 0 0)/\dF d 5 (.ptr 1 0 0 0)/\dF d 7 (Z e.jm.length)/\dF d 8 (Z q)/\
  ∀I∈e.jm.take q,∀s∈jb I,0<=s/\s<e.iZ) ?_ ?_ J ?_
 ·rintro q d h N S ⟨i,l,m,j,n,o,k,p,D⟩;have F:=i.ne (b:=0) J;have O:=i.ne (b:=1) J;have H:e.jm.take (q+1)=e.jm.take q++[e.jm[q]]:=aQ N;have W:=kU (a:=e.jm.length) (b:=1) J J;simp[l,m,n,o,k,p,N,F,O,i.low,W,Ru,X4,show e.jm.length<=140737488355328 by omega];generalize e.jm[q]=c at*
  refine ej (λf=>?_) (λf=>?_)
  ·simp[i.hp]
  clear f;have Y:(decide (c.op=28)=true/\True/\True/\∃g:iK,g=g)\/(decide (c.op=28)=false/\iN c.jk u.iJ.length=false/\True/\∃g:iK,g=g)\/(decide (c.op=28)=false/\iN c.jk u.iJ.length=true/\kt c.jk=some c.jk.toNat/\∃g,u.iJ[c.jk.toNat]? =some g):=by
   cases ae:decide (c.op=28)
   ·cases K:iN c.jk u.iJ.length
    ·exact .inr (.inl ⟨rfl,rfl,trivial,default,rfl⟩)
    ·have⟨g,X,al⟩:=iD K;exact .inr (.inr ⟨rfl,rfl,eG (eZ.1 K).1,g,X⟩)
   ·exact .inl ⟨rfl,trivial,trivial,default,rfl⟩
  rcases Y with⟨x,y,z,g,A⟩|⟨x,y,z,g,A⟩|⟨x,y,z,g,A⟩
  all_goals simp [l,j,n,F,x,y,z,A,vC,i.hp]
  all_goals
   refine ej (λf=>?_) (λf=>?_)
   ·simp[i.hp]
   simp[k,vC];clear f x y z A;refine ej (λf=>?_) (λf=>?_)
   ·simp[i.hp]
   simp[vf]
  all_goals
   refine fD (jb c).length (by have:=C0 c;omega) (λr d v=>il 2 v/\v.get 0=some (dE 6 0 [u.t])/\v.get 1=some (dE 2 0 [e.t])/\dF d 1 (Z P)/\dF d 3 (.ptr 0 0 0 0)/\dF d 5 (.ptr 1 0 0 0)/\dF d 7 (Z e.jm.length)/\dF d 8 (Z q)/\
    dF d 10 (sl ((jb c).map (T.int .i64)))/\dF d 11 (Z r)/\∀s∈(jb c).take r,0<=s/\s<e.iZ) ?_ ?_ (by have:=C0 c;omega) ⟨i.cons _,by simp[l,m,j,n,o,k,p,F,O]⟩
   ·rintro r d v M U ⟨E,l,m,j,n,o,k,p,B,C,hr⟩;have H:(jb c).take (r+1)=(jb c).take r++[(jb c)[r]]:=aQ M;simp[m,o,B,C,M,vC];generalize(jb c)[r]=s at*
    refine ej (λf=>?_) (λf=>?_)
    ·simp[E.hp]
    ·have V:=QW.1 (show KA s e.iZ=true by simpa using f);simp[l,m,j,n,o,k,p,B,C,U,E,H];intro w G;rcases G with G|rfl
     ·exact hr w G
     ·exact V
   ·rintro d v ⟨E,l,m,j,n,o,k,p,B,C,hr⟩;rw[aK]at hr;simp[l,m,j,n,o,k,p,B,C,S,E,H];intro I w;rcases w with w|rfl
    ·exact D I w
    ·exact hr
 ·rintro d h ⟨i,l,m,j,n,o,k,p,D⟩;rw[aK]at D;simp[k,p,i.hp];exact⟨f.1.1,f.1.2,D⟩
 ·exact⟨⟨dy,dy,dy⟩,by simp[j]⟩
def Rg(a:jR):Prop:=j8 a.em=true/\a.dH.length=a.em.dH.length/\∀b∈a.dH,Wa b
def xl:nS prog cx 88 (λa:jR=>[a.t]) (λa=>∀k∈a.dH,k.jm.length<=10000001) (λa=>NK (Rg a)):=by
 refine jh [(81,yg),(133,FA.jv)] (iX 17184194575 [] func88) (λa=>100) (λw n c=>by simp at c;exact jR.inj c) ?_;rintro a hl d p;simp at p;simp[f88,p,Ab];refine ej (λh=>?_) (λh=>?_)
 ·simp
 simp at h;have x:a.em.dH.length<=4:=by
  have:=h.1;unfold j8 sY at this;simp only[aB,aO]at this;omega
 have s:a.dH.length=a.em.dH.length:=J;simp;refine fD a.dH.length J (λb d c=>il 1 c/\c.get 0=some (dE 7 0 [a.t])/\dF d 1 (.ptr 0 0 0 0)/\dF d 3 (Z b)/\∀k∈a.dH.take b,Wa k) ?_ ?_ J ⟨⟨dy,dy,dy⟩,dy⟩
 ·rintro b d c l r ⟨j,e,f,g,i⟩;have u:a.dH.take (b+1)=a.dH.take b++[a.dH[b]]:=aQ l;obtain⟨_,⟨n,rfl,q⟩,o⟩:=FA.use (a.em,(b:Int),a.dH[b]) (hl _ (aF l));simp[e,f,g,l];generalize a.dH[b]=k at*
  simp only at o q;simp[o];cases n with
  |false=>simp[j.hp]
  |true=>
   simp[e,f,g,r,j,u];intro v m;rcases m with m|rfl
   ·exact i v m
   ·exact q rfl
 ·rintro d c ⟨j,e,f,g,i⟩;rw[aK]at i;simp[e,f,g,j.hp];exact⟨h.1,s,i⟩
