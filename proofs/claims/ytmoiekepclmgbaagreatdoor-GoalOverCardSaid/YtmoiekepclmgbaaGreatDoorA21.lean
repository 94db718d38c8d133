/- V06 -/
import Derived.Test.YtmoiekepclmgbaaGreatDoorA12
import Derived.Test.YtmoiekepclmgbaaGreatDoorA20
set_option linter.all false
set_option maxRecDepth 100000
set_option maxHeartbeats 0
namespace Go.Proofs.YtmoiekepclmgbaaGreatDoor
noncomputable section
open Go Go.TI Tryz
attribute [-simp] List.map_take List.map_drop List.map_append fU fK fh Bool.not_or Bool.not_and
attribute [simp] fT fM
def Zp(a:im):Prop:=∀c∈a.jO,∀b∈jA c,0<=b/\b<a.jy
def Zb(a:im):Prop:=0<=a.jy/\a.jy<=32/\Zp a
def Eh(a:io):(jA a).length<=3:=by
 unfold jA
 (repeat' split)<;>simp
def G4:o9 prog cx 127 (λa:fc×Int×im=>[a.1.t,G a.2.1,a.2.2.t]) (λa=>a.2.2.jO.length<=10000001) (λa=>Ih (Zb a.2.2)):=by
 refine jL [(164,xV),(165,El),(166,Zv ()),(113,pI)] (jr 348794743007212715313826391199890521722863 [] func127) (λa=>a.2.2.jO.length+5) (λa b h=>by simp at h;exact aD (fc.inj h.1) (aD h.2.1 (im.inj h.2.2))) ?_;rintro⟨u,Q,e⟩ hl d M;simp at hl M;obtain⟨R,j,S⟩:=M;simp[f127,R,S];refine fw (λf=>?_) (λf=>?_)
 ·simp
 simp at f;simp;refine gu e.jO.length D (λq d h=>iE 2 h/\h.get 0=some (dS 6 0 [u.t])/\h.get 1=some (dS 2 0 [e.t])/\dT d 1 (G Q)/\dT d 3 (.ptr 0 0 0 0)/\dT d 5 (.ptr 1 0 0 0)/\dT d 7 (G e.jO.length)/\dT d 8 (G q)/\
  ∀K∈e.jO.take q,∀s∈jA K,0<=s/\s<e.jy) ?_ ?_ D ?_
 ·rintro q d h O U ⟨i,l,m,j,n,o,k,p,E⟩;have H:=i.ne (b:=0) D;have P:=i.ne (b:=1) D;have J:e.jO.take (q+1)=e.jO.take q++[e.jO[q]]:=aM O;have X:=lJ (a:=e.jO.length) (b:=1) D D;simp[l,m,n,o,k,p,O,H,P,i.low,X,Ud,aaV,show e.jO.length<=140737488355328 by omega];generalize e.jO[q]=c at*
  refine fw (λf=>?_) (λf=>?_)
  ·simp[i.hp]
  clear f;have ae:(decide (c.op=28)=true/\True/\True/\∃g:jc,g=g)\/(decide (c.op=28)=false/\ju c.jK u.ji.length=false/\True/\∃g:jc,g=g)\/(decide (c.op=28)=false/\ju c.jK u.ji.length=true/\kT c.jK=some c.jK.toNat/\∃g,u.ji[c.jK.toNat]? =some g):=by
   cases al:decide (c.op=28)
   ·cases L:ju c.jK u.ji.length
    ·exact .inr (.inl ⟨rfl,rfl,trivial,default,rfl⟩)
    ·have⟨g,Z,an⟩:=iU L;exact .inr (.inr ⟨rfl,rfl,fy (fI.1 L).1,g,Z⟩)
   ·exact .inl ⟨rfl,trivial,trivial,default,rfl⟩
  rcases ae with⟨x,y,z,g,A⟩|⟨x,y,z,g,A⟩|⟨x,y,z,g,A⟩
  all_goals simp [l,j,n,H,x,y,z,A,xv,i.hp]
  all_goals
   refine fw (λf=>?_) (λf=>?_)
   ·simp[i.hp]
   simp[k,xv];clear f x y z A;refine fw (λf=>?_) (λf=>?_)
   ·simp[i.hp]
   simp[xe]
  all_goals
   refine gu (jA c).length (by have:=Eh c;omega) (λr d v=>iE 2 v/\v.get 0=some (dS 6 0 [u.t])/\v.get 1=some (dS 2 0 [e.t])/\dT d 1 (G Q)/\dT d 3 (.ptr 0 0 0 0)/\dT d 5 (.ptr 1 0 0 0)/\dT d 7 (G e.jO.length)/\dT d 8 (G q)/\
    dT d 10 (sl ((jA c).map (T.int .i64)))/\dT d 11 (G r)/\∀s∈(jA c).take r,0<=s/\s<e.jy) ?_ ?_ (by have:=Eh c;omega) ⟨i.cons _,by simp[l,m,j,n,o,k,p,H,P]⟩
   ·rintro r d v N V ⟨F,l,m,j,n,o,k,p,B,C,hr⟩;have J:(jA c).take (r+1)=(jA c).take r++[(jA c)[r]]:=aM N;simp[m,o,B,C,N,xv];generalize(jA c)[r]=s at*
    refine fw (λf=>?_) (λf=>?_)
    ·simp[F.hp]
    ·have W:=TB.1 (show MA s e.jy=true by simpa using f);simp[l,m,j,n,o,k,p,B,C,V,F,J];intro w I;rcases I with I|rfl
     ·exact hr w I
     ·exact W
   ·rintro d v ⟨F,l,m,j,n,o,k,p,B,C,hr⟩;rw[aI]at hr;simp[l,m,j,n,o,k,p,B,C,U,F,J];intro K w;rcases w with w|rfl
    ·exact E K w
    ·exact hr
 ·rintro d h ⟨i,l,m,j,n,o,k,p,E⟩;rw[aI]at E;simp[k,p,i.hp];exact⟨f.1.1,f.1.2,E⟩
 ·exact⟨⟨Y,Y,Y⟩,by simp[j]⟩
def TZ(a:ky):Prop:=kv a.fq=true/\a.dW.length=a.fq.dW.length/\∀b∈a.dW,Zb b
def yI:o9 prog cx 88 (λa:ky=>[a.t]) (λa=>∀k∈a.dW,k.jO.length<=10000001) (λa=>Ih (TZ a)):=by
 refine jL [(81,zO),(127,G4.jX)] (jr 17184194575 [] func88) (λa=>100) (λw n c=>by simp at c;exact ky.inj c) ?_;rintro a hl d p;simp at p;simp[f88,p,By];refine fw (λh=>?_) (λh=>?_)
 ·simp
 simp at h;have x:a.fq.dW.length<=4:=by
  have:=h.1;unfold kv uL at this;simp only[ax,aK]at this;omega
 have s:a.dW.length=a.fq.dW.length:=D;simp;refine gu a.dW.length D (λb d c=>iE 1 c/\c.get 0=some (dS 7 0 [a.t])/\dT d 1 (.ptr 0 0 0 0)/\dT d 3 (G b)/\∀k∈a.dW.take b,Zb k) ?_ ?_ D ⟨⟨Y,Y,Y⟩,Y⟩
 ·rintro b d c l r ⟨j,e,f,g,i⟩;have u:a.dW.take (b+1)=a.dW.take b++[a.dW[b]]:=aM l;obtain⟨_,⟨n,rfl,q⟩,o⟩:=G4.use (a.fq,(b:Int),a.dW[b]) (hl _ (aC l));simp[e,f,g,l];generalize a.dW[b]=k at*
  simp only at o q;simp[o];cases n with
  |false=>simp[j.hp]
  |true=>
   simp[e,f,g,r,j,u];intro v m;rcases m with m|rfl
   ·exact i v m
   ·exact q rfl
 ·rintro d c ⟨j,e,f,g,i⟩;rw[aI]at i;simp[e,f,g,j.hp];exact⟨h.1,s,i⟩
