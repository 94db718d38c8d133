/- Texts V06 to V06. -/
import Derived.Test.YtmaeadedikngoaaGreatDoorA18
import Derived.Test.YtmaeadedikngoaaGreatDoorA20
set_option linter.unusedVariables false
set_option linter.unusedSimpArgs false
set_option maxRecDepth 100000
set_option maxHeartbeats 8000000
namespace Go.Proofs.YtmaeadedikngoaaGreatDoor
noncomputable section
open Go Go.TI
attribute [-simp] List.map_take List.map_drop List.map_append fi ei dT Bool.not_or Bool.not_and
attribute [simp] fh ew
def TM(a:fq):Prop:=∀c∈a.iJ,∀b∈iv c,0<=b/\b<a.iq
def Tu(a:fq):Prop:=0<=a.iq/\a.iq<=32/\TM a
theorem AI(a:fa):(iv a).length<=3:=by
 unfold iv
 (repeat' split)<;>simp
theorem CG:nZ Tryz.prog cx 115 (λa:dJ×Int×fq=>[a.1.t,.int .i64 a.2.1,a.2.2.t]) (λa=>a.2.2.iJ.length<=10000001) (λa=>NE (Tu a.2.2)):=by
 refine jk (tb:=⟨pt [(160,sd),(161,yh),(162,Sg ()),(97,mh)],ht []⟩) dX dU (iN 348794743007212715313826391199890521722863 [] Tryz.func115) (λa=>a.2.2.iJ.length+5) (λa b h=>by simp at h;exact aR (dJ.inj h.1) (aR h.2.1 (fq.inj h.2.2))) (by simp) (by simp[Tryz.f115]) ?_
 rintro⟨u,O,e⟩ hl d K
 simp at hl K
 obtain⟨P,j,Q⟩:=K
 simp[Tryz.f115,P,Q]
 refine dM (λf=> ?_) (λf=> ?_)
 ·simp
 simp at f
 simp
 refine eQ e.iJ.length (by omega) (λq d h=>gh 2 h/\h.get 0=some ⟨6,0,0,true,false,[u.t]⟩/\h.get 1=some ⟨2,0,0,true,false,[e.t]⟩/\TI.dt d 1=some (.int .i64 O)/\TI.dt d 3=some (.ptr 0 0 0 0)/\TI.dt d 5=some (.ptr 1 0 0 0)/\TI.dt d 7=some (.int .i64 e.iJ.length)/\TI.dt d 8=some (.int .i64 q)/\
  ∀I∈e.iJ.take q,∀s∈iv I,0<=s/\s<e.iq) ?_ ?_ (by omega) ?_
 ·rintro q d h M R ⟨i,l,m,j,n,o,k,p,D⟩
  have F:=i.ne (b:=0) (by omega)
  have N:=i.ne (b:=1) (by omega)
  have H:e.iJ.take (q+1)=e.iJ.take q++[e.iJ[q]]:=bj M
  have V:=kl (a:=e.iJ.length) (b:=1) (by omega) (by omega)
  simp[l,m,n,o,k,p,M,F,N,i.low,V,Od,Vj,show e.iJ.length<=140737488355328 by omega]
  generalize e.iJ[q]=c at*
  refine dM (λf=> ?_) (λf=> ?_)
  ·simp[i.hp]
  clear f
  have X:(decide (c.op=28)=true/\True/\True/\∃g:gY,g=g)\/(decide (c.op=28)=false/\iI c.iF u.gW.length=false/\True/\∃g:gY,g=g)\/(decide (c.op=28)=false/\iI c.iF u.gW.length=true/\ke c.iF=some c.iF.toNat/\∃g,u.gW[c.iF.toNat]? =some g):=by
   cases Y:decide (c.op=28)
   ·cases J:iI c.iF u.gW.length
    ·exact .inr (.inl ⟨rfl,rfl,trivial,default,rfl⟩)
    ·obtain⟨g,W,Z⟩:=ij J
     exact .inr (.inr ⟨rfl,rfl,dS (ed.1 J).1,g,W⟩)
   ·exact .inl ⟨rfl,trivial,trivial,default,rfl⟩
  rcases X with⟨x,y,z,g,A⟩|⟨x,y,z,g,A⟩|⟨x,y,z,g,A⟩
  all_goals simp [l,j,n,F,x,y,z,A,uc,i.hp]
  all_goals
   refine dM (λf=> ?_) (λf=> ?_)
   ·simp[i.hp]
   simp[k,uc]
   clear f x y z A
   refine dM (λf=> ?_) (λf=> ?_)
   ·simp[i.hp]
   simp[tR]
  all_goals
   refine eQ (iv c).length (by have:=AI c;omega) (λr d v=>gh 2 v/\v.get 0=some ⟨6,0,0,true,false,[u.t]⟩/\v.get 1=some ⟨2,0,0,true,false,[e.t]⟩/\TI.dt d 1=some (.int .i64 O)/\TI.dt d 3=some (.ptr 0 0 0 0)/\TI.dt d 5=some (.ptr 1 0 0 0)/\TI.dt d 7=some (.int .i64 e.iJ.length)/\TI.dt d 8=some (.int .i64 q)/\
    TI.dt d 10=some (sl ((iv c).map (T.int .i64)))/\TI.dt d 11=some (.int .i64 r)/\∀s∈(iv c).take r,0<=s/\s<e.iq) ?_ ?_ (by have:=AI c;omega) ⟨i.cons _,by simp[l,m,j,n,o,k,p,F,N]⟩
   ·rintro r d v L S ⟨E,l,m,j,n,o,k,p,B,C,hr⟩
    have H:(iv c).take (r+1)=(iv c).take r++[(iv c)[r]]:=bj L
    simp[m,o,B,C,L,uc]
    generalize(iv c)[r]=s at*
    refine dM (λf=> ?_) (λf=> ?_)
    ·simp[E.hp]
    ·have U:=NG.1 (show Id s e.iq=true by simpa using f)
     simp[l,m,j,n,o,k,p,B,C,S,E,H]
     intro w G
     rcases G with G|rfl
     ·exact hr w G
     ·exact U
   ·rintro d v ⟨E,l,m,j,n,o,k,p,B,C,hr⟩
    rw[aQ]at hr
    simp[l,m,j,n,o,k,p,B,C,R,E,H]
    intro I w
    rcases w with w|rfl
    ·exact D I w
    ·exact hr
 ·rintro d h ⟨i,l,m,j,n,o,k,p,D⟩
  rw[aQ]at D
  simp[k,p,i.hp]
  exact⟨f.1.1,f.1.2,D⟩
 ·exact⟨⟨by simp,by simp,by simp⟩,by simp[j]⟩
def NZ(a:jh):Prop:=jN a.d8=true/\a.dp.length=a.d8.dp.length/\∀b∈a.dp,Tu b
theorem u9:nZ Tryz.prog cx 74 (λa:jh=>[a.t]) (λa=>∀k∈a.dp,k.iJ.length<=10000001) (λa=>NE (NZ a)):=by
 refine jk (tb:=⟨pt [(67,wv),(115,CG.jl)],ht []⟩) dX dU (iN 17184194575 [] Tryz.func74) (λa=>100) (λw n c=>by simp at c;exact jh.inj c) (by simp) (by simp[Tryz.f74]) ?_
 rintro a hl d p
 simp at p
 simp[Tryz.f74,p,GJ]
 refine dM (λh=> ?_) (λh=> ?_)
 ·simp
 simp at h
 have x:a.d8.dp.length<=4:=by
  have:=h.1
  unfold jN rj at this
  simp only[ay,aL]at this
  omega
 have s:a.dp.length=a.d8.dp.length:=by omega
 simp
 refine eQ a.dp.length (by omega) (λb d c=>gh 1 c/\c.get 0=some ⟨7,0,0,true,false,[a.t]⟩/\TI.dt d 1=some (.ptr 0 0 0 0)/\TI.dt d 3=some (.int .i64 b)/\∀k∈a.dp.take b,Tu k) ?_ ?_ (by omega) ⟨⟨by simp,by simp,by simp⟩,by simp⟩
 ·rintro b d c l r ⟨j,e,f,g,i⟩
  have u:a.dp.take (b+1)=a.dp.take b++[a.dp[b]]:=bj l
  obtain⟨_,⟨n,rfl,q⟩,o⟩:=CG.use (a.d8,(b:Int),a.dp[b]) (hl _ (aF l))
  simp[e,f,g,l]
  generalize a.dp[b]=k at*
  simp only at o q
  simp[o]
  cases n with
  |false=>simp[j.hp]
  |true=>
   simp[e,f,g,r,j,u]
   intro v m
   rcases m with m|rfl
   ·exact i v m
   ·exact q rfl
 ·rintro d c ⟨j,e,f,g,i⟩
  rw[aQ]at i
  simp[e,f,g,j.hp]
  exact⟨h.1,s,i⟩
end
end Go.Proofs.YtmaeadedikngoaaGreatDoor
