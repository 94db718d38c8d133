/- V06 -/
import Derived.Test.YtalknpnbaceflaaGreatDoorA12
import Derived.Test.YtalknpnbaceflaaGreatDoorA20
set_option linter.all false
set_option maxRecDepth 100000
set_option maxHeartbeats 0
namespace Go.Proofs.YtalknpnbaceflaaGreatDoor
noncomputable section
open Go Go.TI Tryz
attribute [-simp] List.map_take List.map_drop List.map_append ij gG fK Bool.not_or Bool.not_and
attribute [simp] ig gJ
def aac(a:iC):Prop:=∀c∈a.j3,∀b∈jP c,0<=b/\b<a.jN
def ZZ(a:iC):Prop:=0<=a.jN/\a.jN<=32/\aac a
def E5(a:iE):(jP a).length<=3:=by
 unfold jP
 (repeat' split)<;>simp
def HU:pM prog cx 129 (λa:fy×Int×iC=>[a.1.t,C a.2.1,a.2.2.t]) (λa=>a.2.2.j3.length<=10000001) (λa=>Lp (ZZ a.2.2)):=by
 refine jU [(165,yy),(166,E8),(167,rIn ()),(115,qd)] (jF 348794743007212715313826391199890521722863 [] func129) (λa=>a.2.2.j3.length+5) (λa b h=>by simp at h;exact aD (fy.inj h.1) (aD h.2.1 (iC.inj h.2.2))) ?_;rintro⟨u,S,e⟩ hl d O;simp at hl O;obtain⟨U,j,V⟩:=O;simp[f129,U,V];refine fN (λf=>?_) (λf=>?_)
 ·simp
 simp at f;simp;refine ik e.j3.length B (λq d h=>iQ 2 h/\h.get 0=some (X 6 0 [u.t])/\h.get 1=some (X 2 0 [e.t])/\Y d 1 (C S)/\Y d 3 (.fc 0 0 0 0)/\Y d 5 (.fc 1 0 0 0)/\Y d 7 (C e.j3.length)/\Y d 8 (C q)/\
  ∀L∈e.j3.take q,∀s∈jP L,0<=s/\s<e.jN) ?_ ?_ B ?_
 ·rintro q d h Q W ⟨i,l,m,j,n,o,k,p,F⟩;have I:=i.ne (b:=0) B;have R:=i.ne (b:=1) B;have K:e.j3.take (q+1)=e.j3.take q++[e.j3[q]]:=aP Q;have ae:=mh (a:=e.j3.length) (b:=1) B B;simp[l,m,n,o,k,p,Q,I,R,i.low,ae,U4,abF,show e.j3.length<=140737488355328 by omega];generalize e.j3[q]=c at*
  refine fN (λf=>?_) (λf=>?_)
  ·simp[i.hp]
  clear f;have an:(decide (c.op=28)=true/\True/\True/\∃g:js,g=g)\/(decide (c.op=28)=false/\ju c.jY u.jy.length=false/\True/\∃g:js,g=g)\/(decide (c.op=28)=false/\ju c.jY u.jy.length=true/\lJ c.jY=some c.jY.toNat/\∃g,u.jy[c.jY.toNat]? =some g):=by
   cases ap:decide (c.op=28)
   ·cases N:ju c.jY u.jy.length
    ·exact .inr (.inl ⟨rfl,rfl,trivial,default,rfl⟩)
    ·have⟨g,al,av⟩:=jn N;exact .inr (.inr ⟨rfl,rfl,fU (fQ.1 N).1,g,al⟩)
   ·exact .inl ⟨rfl,trivial,trivial,default,rfl⟩
  rcases an with⟨x,y,z,g,A⟩|⟨x,y,z,g,A⟩|⟨x,y,z,g,A⟩
  all_goals simp [l,j,n,I,x,y,z,A,x7,i.hp]
  all_goals
   refine fN (λf=>?_) (λf=>?_)
   ·simp[i.hp]
   simp[k,x7];clear f x y z A;refine fN (λf=>?_) (λf=>?_)
   ·simp[i.hp]
   simp[xL]
  all_goals
   refine ik (jP c).length (by have:=E5 c;omega) (λr d v=>iQ 2 v/\v.get 0=some (X 6 0 [u.t])/\v.get 1=some (X 2 0 [e.t])/\Y d 1 (C S)/\Y d 3 (.fc 0 0 0 0)/\Y d 5 (.fc 1 0 0 0)/\Y d 7 (C e.j3.length)/\Y d 8 (C q)/\
    Y d 10 (sl ((jP c).map (T.int .i64)))/\Y d 11 (C r)/\∀s∈(jP c).take r,0<=s/\s<e.jN) ?_ ?_ (by have:=E5 c;omega) ⟨i.cons _,by simp[l,m,j,n,o,k,p,I,R]⟩
   ·rintro r d v P Z ⟨H,l,m,j,n,o,k,p,D,E,hr⟩;have K:(jP c).take (r+1)=(jP c).take r++[(jP c)[r]]:=aP P;simp[m,o,D,E,P,x7];generalize(jP c)[r]=s at*
    refine fN (λf=>?_) (λf=>?_)
    ·simp[H.hp]
    ·have ab:=Uw.1 (show Ny s e.jN=true by simpa using f);simp[l,m,j,n,o,k,p,D,E,Z,H,K];intro w J;rcases J with J|rfl
     ·exact hr w J
     ·exact ab
   ·rintro d v ⟨H,l,m,j,n,o,k,p,D,E,hr⟩;rw[aL]at hr;simp[l,m,j,n,o,k,p,D,E,W,H,K];intro L w;rcases w with w|rfl
    ·exact F L w
    ·exact hr
 ·rintro d h ⟨i,l,m,j,n,o,k,p,F⟩;rw[aL]at F;simp[k,p,i.hp];exact⟨f.1.1,f.1.2,F⟩
 ·exact⟨⟨G,G,G⟩,by simp[j]⟩
def UQ(a:kP):Prop:=kM a.fM=true/\a.ee.length=a.fM.ee.length/\∀b∈a.ee,ZZ b
def zt:pM prog cx 90 (λa:kP=>[a.t]) (λa=>∀k∈a.ee,k.j3.length<=10000001) (λa=>Lp (UQ a)):=by
 refine jU [(83,AE),(129,HU.kc)] (jF 17184194575 [] func90) (λa=>100) (λw n c=>by simp at c;exact kP.inj c) ?_;rintro a hl d p;simp at p;simp[f90,p,Ck];refine fN (λh=>?_) (λh=>?_)
 ·simp
 simp at h;have x:a.fM.ee.length<=4:=by
  have:=h.1;unfold kM vk at this;simp only[az,aM]at this;omega
 have s:a.ee.length=a.fM.ee.length:=B;simp;refine ik a.ee.length B (λb d c=>iQ 1 c/\c.get 0=some (X 7 0 [a.t])/\Y d 1 (.fc 0 0 0 0)/\Y d 3 (C b)/\∀k∈a.ee.take b,ZZ k) ?_ ?_ B ⟨⟨G,G,G⟩,G⟩
 ·rintro b d c l r ⟨j,e,f,g,i⟩;have u:a.ee.take (b+1)=a.ee.take b++[a.ee[b]]:=aP l;obtain⟨_,⟨n,rfl,q⟩,o⟩:=HU.use (a.fM,(b:Int),a.ee[b]) (hl _ (aG l));simp[e,f,g,l];generalize a.ee[b]=k at*
  simp only at o q;simp[o];cases n with
  |false=>simp[j.hp]
  |true=>
   simp[e,f,g,r,j,u];intro v m;rcases m with m|rfl
   ·exact i v m
   ·exact q rfl
 ·rintro d c ⟨j,e,f,g,i⟩;rw[aL]at i;simp[e,f,g,j.hp];exact⟨h.1,s,i⟩
