/- Texts V06 to V06. -/
import Derived.Test.YtmaeadedikngoaaGreatDoorA23
import Derived.Test.YtmaeadedikngoaaGreatDoorA27
set_option linter.all false
set_option maxRecDepth 100000
set_option maxHeartbeats 8000000
namespace Go.Proofs.YtmaeadedikngoaaGreatDoor
noncomputable section
open Go Go.TI
attribute [-simp] List.map_take List.map_drop List.map_append fH fh ej Bool.not_or Bool.not_and
attribute [simp] fG fj
def Vl(a:fZ):Prop:=∀c∈a.jk,∀b∈iU c,0<=b/\b<a.iS
def U8(a:fZ):Prop:=0<=a.iS/\a.iS<=32/\Vl a
def BV(a:fU):(iU a).length<=3:=by
 unfold iU
 (repeat' split)<;>simp
def Eq:nK Tryz.prog cx 115 (λa:ee×Int×fZ=>[a.1.t,dG a.2.1,a.2.2.t]) (λa=>a.2.2.jk.length<=10000001) (λa=>MJ (U8 a.2.2)):=by
 refine ju (tb:=⟨pt [(160,tS),(161,zu),(162,T9 ()),(97,mT)],ht []⟩) fc fa (je 348794743007212715313826391199890521722863 [] Tryz.func115) (λa=>a.2.2.jk.length+5) (λa b h=>by simp at h;exact aP (ee.inj h.1) (aP h.2.1 (fZ.inj h.2.2))) dC (by simp[Tryz.f115]) ?_;rintro⟨u,O,e⟩ hl d K;simp at hl K;obtain⟨P,j,Q⟩:=K;simp[Tryz.f115,P,Q];refine em (λf=> ?_) (λf=> ?_)
 ·simp
 simp at f;simp;refine fI e.jk.length dB (λq d h=>ij 2 h/\h.get 0=some (dI 6 0 [u.t])/\h.get 1=some (dI 2 0 [e.t])/\dJ d 1 (dG O)/\dJ d 3 (.ptr 0 0 0 0)/\dJ d 5 (.ptr 1 0 0 0)/\dJ d 7 (dG e.jk.length)/\dJ d 8 (dG q)/\
  ∀I∈e.jk.take q,∀s∈iU I,0<=s/\s<e.iS) ?_ ?_ dB ?_
 ·rintro q d h M R ⟨i,l,m,j,n,o,k,p,D⟩;have F:=i.ne (b:=0) dB;have N:=i.ne (b:=1) dB;have H:e.jk.take (q+1)=e.jk.take q++[e.jk[q]]:=aW M;have V:=kN (a:=e.jk.length) (b:=1) dB dB;simp[l,m,n,o,k,p,M,F,N,i.low,V,Qo,WU,show e.jk.length<=140737488355328 by omega];generalize e.jk[q]=c at*
  refine em (λf=> ?_) (λf=> ?_)
  ·simp[i.hp]
  clear f;have X:(decide (c.op=28)=true/\True/\True/\∃g:iI,g=g)\/(decide (c.op=28)=false/\jt c.jg u.iH.length=false/\True/\∃g:iI,g=g)\/(decide (c.op=28)=false/\jt c.jg u.iH.length=true/\ka c.jg=some c.jg.toNat/\∃g,u.iH[c.jg.toNat]? =some g):=by
   cases Y:decide (c.op=28)
   ·cases J:jt c.jg u.iH.length
    ·exact .inr (.inl ⟨rfl,rfl,trivial,default,rfl⟩)
    ·obtain⟨g,W,Z⟩:=iK J;exact .inr (.inr ⟨rfl,rfl,eQ (fw.1 J).1,g,W⟩)
   ·exact .inl ⟨rfl,trivial,trivial,default,rfl⟩
  rcases X with⟨x,y,z,g,A⟩|⟨x,y,z,g,A⟩|⟨x,y,z,g,A⟩
  all_goals simp [l,j,n,F,x,y,z,A,u7,i.hp]
  all_goals
   refine em (λf=> ?_) (λf=> ?_)
   ·simp[i.hp]
   simp[k,u7];clear f x y z A;refine em (λf=> ?_) (λf=> ?_)
   ·simp[i.hp]
   simp[uS]
  all_goals
   refine fI (iU c).length (by have:=BV c;omega) (λr d v=>ij 2 v/\v.get 0=some (dI 6 0 [u.t])/\v.get 1=some (dI 2 0 [e.t])/\dJ d 1 (dG O)/\dJ d 3 (.ptr 0 0 0 0)/\dJ d 5 (.ptr 1 0 0 0)/\dJ d 7 (dG e.jk.length)/\dJ d 8 (dG q)/\
    dJ d 10 (sl ((iU c).map (T.int .i64)))/\dJ d 11 (dG r)/\∀s∈(iU c).take r,0<=s/\s<e.iS) ?_ ?_ (by have:=BV c;omega) ⟨i.cons _,by simp[l,m,j,n,o,k,p,F,N]⟩
   ·rintro r d v L S ⟨E,l,m,j,n,o,k,p,B,C,hr⟩;have H:(iU c).take (r+1)=(iU c).take r++[(iU c)[r]]:=aW L;simp[m,o,B,C,L,u7];generalize(iU c)[r]=s at*
    refine em (λf=> ?_) (λf=> ?_)
    ·simp[E.hp]
    ·have U:=PG.1 (show JL s e.iS=true by simpa using f);simp[l,m,j,n,o,k,p,B,C,S,E,H];intro w G;rcases G with G|rfl
     ·exact hr w G
     ·exact U
   ·rintro d v ⟨E,l,m,j,n,o,k,p,B,C,hr⟩;rw[aL]at hr;simp[l,m,j,n,o,k,p,B,C,R,E,H];intro I w;rcases w with w|rfl
    ·exact D I w
    ·exact hr
 ·rintro d h ⟨i,l,m,j,n,o,k,p,D⟩;rw[aL]at D;simp[k,p,i.hp];exact⟨f.1.1,f.1.2,D⟩
 ·exact⟨⟨dC,dC,dC⟩,by simp[j]⟩
def Qb(a:jO):Prop:=j4 a.fq=true/\a.dM.length=a.fq.dM.length/\∀b∈a.dM,U8 b
def wA:nK Tryz.prog cx 74 (λa:jO=>[a.t]) (λa=>∀k∈a.dM,k.jk.length<=10000001) (λa=>MJ (Qb a)):=by
 refine ju (tb:=⟨pt [(67,vJ),(115,Eq.jx)],ht []⟩) fc fa (je 17184194575 [] Tryz.func74) (λa=>100) (λw n c=>by simp at c;exact jO.inj c) dC (by simp[Tryz.f74]) ?_;rintro a hl d p;simp at p;simp[Tryz.f74,p,yY];refine em (λh=> ?_) (λh=> ?_)
 ·simp
 simp at h;have x:a.fq.dM.length<=4:=by
  have:=h.1;unfold j4 sH at this;simp only[ay,aJ]at this;omega
 have s:a.dM.length=a.fq.dM.length:=dB;simp;refine fI a.dM.length dB (λb d c=>ij 1 c/\c.get 0=some (dI 7 0 [a.t])/\dJ d 1 (.ptr 0 0 0 0)/\dJ d 3 (dG b)/\∀k∈a.dM.take b,U8 k) ?_ ?_ dB ⟨⟨dC,dC,dC⟩,dC⟩
 ·rintro b d c l r ⟨j,e,f,g,i⟩;have u:a.dM.take (b+1)=a.dM.take b++[a.dM[b]]:=aW l;obtain⟨_,⟨n,rfl,q⟩,o⟩:=Eq.use (a.fq,(b:Int),a.dM[b]) (hl _ (aC l));simp[e,f,g,l];generalize a.dM[b]=k at*
  simp only at o q;simp[o];cases n with
  |false=>simp[j.hp]
  |true=>
   simp[e,f,g,r,j,u];intro v m;rcases m with m|rfl
   ·exact i v m
   ·exact q rfl
 ·rintro d c ⟨j,e,f,g,i⟩;rw[aL]at i;simp[e,f,g,j.hp];exact⟨h.1,s,i⟩
end
end Go.Proofs.YtmaeadedikngoaaGreatDoor
