/- Texts V06 to V06. -/
import Derived.Test.YtmaeadedikngoaaGreatDoorA23
import Derived.Test.YtmaeadedikngoaaGreatDoorA27
set_option linter.all false
set_option maxRecDepth 100000
set_option maxHeartbeats 8000000
namespace Go.Proofs.YtmaeadedikngoaaGreatDoor
noncomputable section
open Go Go.TI
attribute [-simp] List.map_take List.map_drop List.map_append fG fg ei Bool.not_or Bool.not_and
attribute [simp] fF fh
def VC(a:fZ):Prop:=∀c∈a.jl,∀b∈iV c,0<=b/\b<a.iT
def Vp(a:fZ):Prop:=0<=a.iT/\a.iT<=32/\VC a
def B4(a:fT):(iV a).length<=3:=by
 unfold iV
 (repeat' split)<;>simp
def Ey:nO Tryz.prog cx 115 (λa:d8×Int×fZ=>[a.1.t,dE a.2.1,a.2.2.t]) (λa=>a.2.2.jl.length<=10000001) (λa=>MZ (Vp a.2.2)):=by
 refine jt (tb:=⟨pt [(160,tR),(161,zH),(162,Un ()),(97,mY)],ht []⟩) fa eQ (iR 348794743007212715313826391199890521722863 [] Tryz.func115) (λa=>a.2.2.jl.length+5) (λa b h=>by simp at h;exact aR (d8.inj h.1) (aR h.2.1 (fZ.inj h.2.2))) dA (by simp[Tryz.f115]) ?_;rintro⟨u,O,e⟩ hl d K;simp at hl K;obtain⟨P,j,Q⟩:=K;simp[Tryz.f115,P,Q];refine ee (λf=> ?_) (λf=> ?_)
 ·simp
 simp at f;simp;refine fy e.jl.length dz (λq d h=>ig 2 h/\h.get 0=some (dG 6 0 [u.t])/\h.get 1=some (dG 2 0 [e.t])/\dH d 1 (dE O)/\dH d 3 (.ptr 0 0 0 0)/\dH d 5 (.ptr 1 0 0 0)/\dH d 7 (dE e.jl.length)/\dH d 8 (dE q)/\
  ∀I∈e.jl.take q,∀s∈iV I,0<=s/\s<e.iT) ?_ ?_ dz ?_
 ·rintro q d h M R ⟨i,l,m,j,n,o,k,p,D⟩;have F:=i.ne (b:=0) dz;have N:=i.ne (b:=1) dz;have H:e.jl.take (q+1)=e.jl.take q++[e.jl[q]]:=aZ M;have V:=kF (a:=e.jl.length) (b:=1) dz dz;simp[l,m,n,o,k,p,M,F,N,i.low,V,QF,Xg,show e.jl.length<=140737488355328 by omega];generalize e.jl[q]=c at*
  refine ee (λf=> ?_) (λf=> ?_)
  ·simp[i.hp]
  clear f;have X:(decide (c.op=28)=true/\True/\True/\∃g:iH,g=g)\/(decide (c.op=28)=false/\je c.jk u.iG.length=false/\True/\∃g:iH,g=g)\/(decide (c.op=28)=false/\je c.jk u.iG.length=true/\kj c.jk=some c.jk.toNat/\∃g,u.iG[c.jk.toNat]? =some g):=by
   cases Y:decide (c.op=28)
   ·cases J:je c.jk u.iG.length
    ·exact .inr (.inl ⟨rfl,rfl,trivial,default,rfl⟩)
    ·obtain⟨g,W,Z⟩:=iI J;exact .inr (.inr ⟨rfl,rfl,eK (fq.1 J).1,g,W⟩)
   ·exact .inl ⟨rfl,trivial,trivial,default,rfl⟩
  rcases X with⟨x,y,z,g,A⟩|⟨x,y,z,g,A⟩|⟨x,y,z,g,A⟩
  all_goals simp [l,j,n,F,x,y,z,A,u7,i.hp]
  all_goals
   refine ee (λf=> ?_) (λf=> ?_)
   ·simp[i.hp]
   simp[k,u7];clear f x y z A;refine ee (λf=> ?_) (λf=> ?_)
   ·simp[i.hp]
   simp[uS]
  all_goals
   refine fy (iV c).length (by have:=B4 c;omega) (λr d v=>ig 2 v/\v.get 0=some (dG 6 0 [u.t])/\v.get 1=some (dG 2 0 [e.t])/\dH d 1 (dE O)/\dH d 3 (.ptr 0 0 0 0)/\dH d 5 (.ptr 1 0 0 0)/\dH d 7 (dE e.jl.length)/\dH d 8 (dE q)/\
    dH d 10 (sl ((iV c).map (T.int .i64)))/\dH d 11 (dE r)/\∀s∈(iV c).take r,0<=s/\s<e.iT) ?_ ?_ (by have:=B4 c;omega) ⟨i.cons _,by simp[l,m,j,n,o,k,p,F,N]⟩
   ·rintro r d v L S ⟨E,l,m,j,n,o,k,p,B,C,hr⟩;have H:(iV c).take (r+1)=(iV c).take r++[(iV c)[r]]:=aZ L;simp[m,o,B,C,L,u7];generalize(iV c)[r]=s at*
    refine ee (λf=> ?_) (λf=> ?_)
    ·simp[E.hp]
    ·have U:=PY.1 (show JX s e.iT=true by simpa using f);simp[l,m,j,n,o,k,p,B,C,S,E,H];intro w G;rcases G with G|rfl
     ·exact hr w G
     ·exact U
   ·rintro d v ⟨E,l,m,j,n,o,k,p,B,C,hr⟩;rw[aO]at hr;simp[l,m,j,n,o,k,p,B,C,R,E,H];intro I w;rcases w with w|rfl
    ·exact D I w
    ·exact hr
 ·rintro d h ⟨i,l,m,j,n,o,k,p,D⟩;rw[aO]at D;simp[k,p,i.hp];exact⟨f.1.1,f.1.2,D⟩
 ·exact⟨⟨dA,dA,dA⟩,by simp[j]⟩
def Qr(a:jM):Prop:=j3 a.fj=true/\a.dK.length=a.fj.dK.length/\∀b∈a.dK,Vp b
def wC:nO Tryz.prog cx 74 (λa:jM=>[a.t]) (λa=>∀k∈a.dK,k.jl.length<=10000001) (λa=>MZ (Qr a)):=by
 refine jt (tb:=⟨pt [(67,vJ),(115,Ey.jv)],ht []⟩) fa eQ (iR 17184194575 [] Tryz.func74) (λa=>100) (λw n c=>by simp at c;exact jM.inj c) dA (by simp[Tryz.f74]) ?_;rintro a hl d p;simp at p;simp[Tryz.f74,p,y8];refine ee (λh=> ?_) (λh=> ?_)
 ·simp
 simp at h;have x:a.fj.dK.length<=4:=by
  have:=h.1;unfold j3 sI at this;simp only[aB,aK]at this;omega
 have s:a.dK.length=a.fj.dK.length:=dz;simp;refine fy a.dK.length dz (λb d c=>ig 1 c/\c.get 0=some (dG 7 0 [a.t])/\dH d 1 (.ptr 0 0 0 0)/\dH d 3 (dE b)/\∀k∈a.dK.take b,Vp k) ?_ ?_ dz ⟨⟨dA,dA,dA⟩,dA⟩
 ·rintro b d c l r ⟨j,e,f,g,i⟩;have u:a.dK.take (b+1)=a.dK.take b++[a.dK[b]]:=aZ l;obtain⟨_,⟨n,rfl,q⟩,o⟩:=Ey.use (a.fj,(b:Int),a.dK[b]) (hl _ (aC l));simp[e,f,g,l];generalize a.dK[b]=k at*
  simp only at o q;simp[o];cases n with
  |false=>simp[j.hp]
  |true=>
   simp[e,f,g,r,j,u];intro v m;rcases m with m|rfl
   ·exact i v m
   ·exact q rfl
 ·rintro d c ⟨j,e,f,g,i⟩;rw[aO]at i;simp[e,f,g,j.hp];exact⟨h.1,s,i⟩
end
end Go.Proofs.YtmaeadedikngoaaGreatDoor
