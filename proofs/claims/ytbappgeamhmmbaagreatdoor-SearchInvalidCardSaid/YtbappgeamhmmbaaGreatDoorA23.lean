/- V06 -/
import Derived.Test.YtbappgeamhmmbaaGreatDoorA19
import Derived.Test.YtbappgeamhmmbaaGreatDoorA22
set_option linter.all false
set_option maxRecDepth 100000
set_option maxHeartbeats 0
namespace Go.Proofs.YtbappgeamhmmbaaGreatDoor
noncomputable section
open Go Go.TI Tryz
attribute [-simp] List.map_take List.map_drop List.map_append fj ez TI.d8 Bool.not_or Bool.not_and
attribute [simp] fh eG
def UZ(a:fy):Prop:=∀c∈a.iY,∀b∈iK c,0<=b/\b<a.iF
def UL(a:fy):Prop:=0<=a.iF/\a.iF<=32/\UZ a
def BF(a:fD):(iK a).length<=3:=by
 unfold iK
 (repeat' split)<;>simp
def DR:mW prog cx 128 (λa:dR×Int×fy=>[a.1.t,D a.2.1,a.2.2.t]) (λa=>a.2.2.iY.length<=10000001) (λa=>GQ (UL a.2.2)):=by
 refine iS [(172,uR),(173,BI),(174,U3 ()),(108,nq)] (iP 348794743007212715313826391199890521722863 [] func128) (λa=>a.2.2.iY.length+5) (λa b p=>by simp at p;exact aI (dR.inj p.1) (aI p.2.1 (fy.inj p.2.2))) ?_;rintro⟨w,R,l⟩ hl e O;simp at hl O;obtain⟨S,c,U⟩:=O;simp[f128,S,c,U];refine dV (λm=>?_) (λm=>?_)
 ·simp
 simp at m;simp;refine fc l.iY.length B (λs e p=>gH 2 p/\p.get 0=some (Z 6 0 [w.t])/\p.get 1=some (Z 2 0 [l.t])/\dy e 1 (D R)/\dy e 3 (.ptr 0 0 0 0)/\dy e 5 (.ptr 1 0 0 0)/\dy e 7 (D l.iY.length)/\dy e 8 (D s)/\
  ∀M∈l.iY.take s,∀v∈iK M,0<=v/\v<l.iF) ?_ ?_ B ?_
 ·rintro s e p Q V ⟨n,f,g,c,h,i,j,k,H⟩;have q:=n.ne (b:=0) B;have r:=n.ne (b:=1) B;have L:l.iY.take (s+1)=l.iY.take s++[l.iY[s]]:=aT Q;have Y:=kP (a:=l.iY.length) (b:=1) B B;simp[f,g,c,h,i,j,k,Q,q,r,n.low,Y,Pk,WI,show l.iY.length<=140737488355328 by omega];generalize l.iY[s]=d at*
  refine dV (λm=>?_) (λm=>?_)
  ·simp[f,g,c,h,i,j,k,q,r,n.hp]
  clear m;have al:(decide (d.op=28)=true/\True/\True/\∃o:ik,o=o)\/(decide (d.op=28)=false/\iR d.iQ w.io.length=false/\True/\∃o:ik,o=o)\/(decide (d.op=28)=false/\iR d.iQ w.io.length=true/\jM d.iQ=some d.iQ.toNat/\∃o,w.io[d.iQ.toNat]? =some o):=by
   cases an:decide (d.op=28)
   ·cases N:iR d.iQ w.io.length
    ·exact .inr (.inl ⟨rfl,rfl,trivial,default,rfl⟩)
    ·have⟨o,ae,ap⟩:=im N;exact .inr (.inr ⟨rfl,rfl,ee (ff.1 N).1,o,ae⟩)
   ·exact .inl ⟨rfl,trivial,trivial,default,rfl⟩
  rcases al with⟨C,E,F,o,G⟩|⟨C,E,F,o,G⟩|⟨C,E,F,o,G⟩
  all_goals simp [f,g,c,h,i,j,k,q,r,n.low,C,E,F,G,ux,n.hp]
  all_goals
   refine dV (λm=>?_) (λm=>?_)
   ·simp[f,g,c,h,i,j,k,q,r,n.hp]
   simp[f,g,c,h,i,j,k,q,r,n.low,ux];clear m C E F G;refine dV (λm=>?_) (λm=>?_)
   ·simp[f,g,c,h,i,j,k,q,r,n.hp]
   simp[f,g,c,h,i,j,k,q,r,n.low,ul]
  all_goals
   refine fc (iK d).length (by have:=BF d;omega) (λu e x=>gH 2 x/\x.get 0=some (Z 6 0 [w.t])/\x.get 1=some (Z 2 0 [l.t])/\dy e 1 (D R)/\dy e 3 (.ptr 0 0 0 0)/\dy e 5 (.ptr 1 0 0 0)/\dy e 7 (D l.iY.length)/\dy e 8 (D s)/\
    dy e 10 (sl ((iK d).map (T.int .i64)))/\dy e 11 (D u)/\∀v∈(iK d).take u,0<=v/\v<l.iF) ?_ ?_ (by have:=BF d;omega) ⟨n.cons _,by simp[f,g,c,h,i,j,k,q,r]⟩
   ·rintro u e x P W ⟨I,f,g,c,h,i,j,k,y,z,hr⟩;have L:(iK d).take (u+1)=(iK d).take u++[(iK d)[u]]:=aT P;simp[f,g,c,h,i,j,k,y,z,P,ux];generalize(iK d)[u]=v at*
    refine dV (λm=>?_) (λm=>?_)
    ·simp[f,g,c,h,i,j,k,y,z,I.hp]
    ·have X:=OI.1 (show IM v l.iF=true by simpa using m);simp[f,g,c,h,i,j,k,y,z,W,I,L];intro A K;rcases K with K|rfl
     ·exact hr A K
     ·exact X
   ·rintro e x ⟨I,f,g,c,h,i,j,k,y,z,hr⟩;rw[aJ]at hr;simp[f,g,c,h,i,j,k,y,z,V,I,L];intro M A;rcases A with A|rfl
    ·exact H M A
    ·exact hr
 ·rintro e p ⟨n,f,g,c,h,i,j,k,H⟩;rw[aJ]at H;simp[f,g,c,h,i,j,k,n.hp];exact⟨m.1.1,m.1.2,H⟩
 ·exact⟨⟨J,J,J⟩,by simp[c]⟩
def OZ(a:jG):Prop:=jE a.ew=true/\a.dC.length=a.ew.dC.length/\∀b∈a.dC,UL b
def v7:mW prog cx 75 (λa:jG=>[a.t]) (λa=>∀k∈a.dC,k.iY.length<=10000001) (λa=>GQ (OZ a)):=by
 refine iS [(68,xd),(128,DR.ji)] (iP 17184194575 [] func75) (λa=>100) (λw n c=>by simp at c;exact jG.inj c) ?_;rintro a hl g p;simp at p;simp[f75,p,yO];refine dV (λh=>?_) (λh=>?_)
 ·simp
 simp at h;have x:a.ew.dC.length<=4:=by
  have:=h.1;unfold jE rG at this;simp only[az,aL]at this;omega
 have s:a.dC.length=a.ew.dC.length:=B;simp;refine fc a.dC.length B (λb g c=>gH 1 c/\c.get 0=some (Z 7 0 [a.t])/\dy g 1 (.ptr 0 0 0 0)/\dy g 3 (D b)/\∀k∈a.dC.take b,UL k) ?_ ?_ B ⟨⟨J,J,J⟩,J⟩
 ·rintro b g c l r ⟨j,d,e,f,i⟩;have u:a.dC.take (b+1)=a.dC.take b++[a.dC[b]]:=aT l;obtain⟨_,⟨n,rfl,q⟩,o⟩:=DR.use (a.ew,(b:Int),a.dC[b]) (hl _ (aD l));simp[d,e,f,l];generalize a.dC[b]=k at*
  simp only at o q;simp[o];cases n with
  |false=>simp[d,e,f,j.hp]
  |true=>
   simp[d,e,f,r,j,u];intro v m;rcases m with m|rfl
   ·exact i v m
   ·exact q rfl
 ·rintro g c ⟨j,d,e,f,i⟩;rw[aJ]at i;simp[d,e,f,j.hp];exact⟨h.1,s,i⟩
