/- Texts W08 to W08b. -/
import Derived.Test.YtmaeadedikngoaaGreatDoorA12
set_option linter.unusedVariables false
set_option linter.unusedSimpArgs false
set_option maxRecDepth 100000
set_option maxHeartbeats 8000000
namespace Go.Proofs.YtmaeadedikngoaaGreatDoor
noncomputable section
open Go Go.TI
attribute [-simp] List.map_take List.map_drop List.map_append
def pN:fK:=⟨Int×Nat,λa=>[.int .i64 a.1,.int .i64 a.2],λa=>True,λa=> .bool (iI a.1 a.2),λa c b=>by simp at b;rw[b.1,show a.2=c.2 by omega]⟩
theorem T7:pN.Ok Tryz.prog cx 151:=by
 refine f8 (tb:=⟨pt [],ht []⟩) dX dU (iN 19 [] Tryz.func151) (λf=>1) (by simp[pN]) (by simp[pN,Tryz.f151]) ?_
 rintro⟨e,g⟩ _ h a
 simp[pN]at a|-
 obtain⟨b,c⟩:=a
 by_cases d:0<=e<;>simp[Tryz.f151,b,c,d,iI]
theorem Da{c:eG}(ht:c.p 151=some pN)(a:Int)(b:Nat):rl Tryz.prog cx c 151 [.int .i64 a,.int .i64 b]=some (.bool (iI a b)):=fR ht T7 (a,b) trivial
def wx:fK:=⟨dJ×Int×Int,λa=>[a.1.t,.int .i64 a.2.1,.int .i64 a.2.2],λa=>True,λa=> .bool (jn a.1 a.2.1 a.2.2),λa c b=>by simp at b;rw[dJ.inj b.1,b.2.1,b.2.2]⟩
theorem PI:wx.Ok Tryz.prog cx 152:=by
 refine f8 (tb:=⟨pt [(151,pN)],ht []⟩) dX dU (iN 606826398900554784047567 [] Tryz.func152) (λn=>1) (by simp[wx]) (by simp[wx,Tryz.f152]) ?_
 rintro⟨m,a,l⟩ _ p g
 simp[wx]at g|-
 obtain⟨d,c,e⟩:=g
 by_cases i:1<=a/\a<=23
 ·have h:a=1\/a=2\/a=3\/a=4\/a=5\/a=6\/a=7\/a=8\/a=9\/a=10\/a=11\/a=12\/a=13\/a=14\/a=15\/a=16\/a=17\/a=18\/a=19\/a=20\/a=21\/a=22\/a=23:=by omega
  rcases h with rfl|rfl|rfl|rfl|rfl|rfl|rfl|rfl|rfl|rfl|rfl|rfl|rfl|rfl|rfl|rfl|rfl|rfl|rfl|rfl|rfl|rfl|rfl
  case inr.inr.inr.inr.inr.inl|inr.inr.inr.inr.inr.inr.inl|inr.inr.inr.inr.inr.inr.inr.inl|inr.inr.inr.inr.inr.inr.inr.inr.inl|inr.inr.inr.inr.inr.inr.inr.inr.inr.inl|inr.inr.inr.inr.inr.inr.inr.inr.inr.inr.inl=>
   cases hl:iI l m.dP.length with
   |true=>
    obtain⟨q,j,k⟩:=ij hl
    simp[Tryz.f152,d,c,e,Da,hl,j,k,jn,dS (ed.1 hl).1]
   |false=>simp[Tryz.f152,d,c,e,Da,hl,rH hl,jn]
  all_goals simp [Tryz.f152,d,c,e,Da,jn]
 ·have b:∀f:Int,1<=f->f<=23->¬a=f:=λf c e o=>i (by omega)
  simp[Tryz.f152,d,c,jn,b 1,b 2,b 3,b 4,b 5,b 6,b 7,b 8,b 9,b 10,b 11,b 12,b 13,b 14,b 15,b 16,b 17,b 18,b 19,b 20,b 21,b 22,b 23]
theorem Og{d:eG}(ht:d.p 152=some wx)(c:dJ)(a b:Int):rl Tryz.prog cx d 152 [c.t,.int .i64 a,.int .i64 b]=some (.bool (jn c a b)):=fR ht PI (c,a,b) trivial
def pU:fK:=⟨dJ×ej,λa=>[a.1.t,a.2.t],λa=>a.1.fP.length<=1099511627776,λa=> .bool (mW a.1 a.2),λa c b=>by simp at b;rw[dJ.inj b.1,ej.inj b.2]⟩
theorem MZ:pU.Ok Tryz.prog cx 111:=by
 refine f8 (tb:=⟨pt [],ht []⟩) dX dU (iN 2147484735 [] Tryz.func111) (λo=>o.1.fP.length+1) (by simp[pU]) (by simp[pU,Tryz.f111]) ?_
 rintro⟨a,m⟩ hl d n
 simp[pU]at hl n|-
 obtain⟨p,q⟩:=n
 simp[Tryz.f111,p,q]
 refine eQ a.fP.length (by omega) (λb d k=>k=H.cons (H.cons hE ⟨6,0,0,true,false,[a.t]⟩) ⟨4,0,0,true,false,[m.t]⟩/\TI.dt d 2=some (.ptr 0 0 0 0)/\TI.dt d 3=some (.ptr 1 0 0 0)/\TI.dt d 5=some (.int .i64 b)/\(a.fP.drop b).all (λe=>iI e.kP a.dP.length)=a.fP.all λe=>iI e.kP a.dP.length) ?_ ?_ (by omega) (by simp)
 ·rintro b d k j r ⟨rfl,f,l,g,c⟩
  rw[aJ j,cA]at c
  by_cases h:(a.fP[b]).kP<0
  ·have:iI (a.fP[b]).kP a.dP.length=false:=by simp[iI];omega
   simp[f,g,j,h,mW,<-c,this]
  ·by_cases i:(a.dP.length:Int)<=(a.fP[b]).kP
   ·have:iI (a.fP[b]).kP a.dP.length=false:=by simp[iI];omega
    simp[f,g,j,h,i,mW,<-c,this]
   ·have:iI (a.fP[b]).kP a.dP.length=true:=by simp[iI];omega
    rw[this,bM]at c
    simp[f,l,g,j,h,i,r,c]
 ·rintro d k ⟨rfl,f,l,g,c⟩
  have s:(a.fP.all λe=>iI e.kP a.dP.length)=true:=by rw[<-c];simp
  by_cases h:m.dP.length=a.dP.length<;>by_cases i:m.done.length=a.dR.length<;>simp[f,l,g,mW,s,h,i,Int.natCast_inj]
theorem tS{c:eG}(ht:c.p 111=some pU)(a:dJ)(b:ej)(hl:a.fP.length<=1099511627776):rl Tryz.prog cx c 111 [a.t,b.t]=some (.bool (mW a b)):=fR ht MZ (a,b) hl
def sa:fK:=⟨ej×Int,λa=>[a.1.t,.int .i64 a.2],λa=>a.1.dp.length<=1099511627776,λa=>sl ((gu a.2 a.1.dp 0).map (T.int .i64)),λa c b=>by simp at b;rw[ej.inj b.1,b.2]⟩
theorem Ky:sa.Ok Tryz.prog cx 153:=by
 refine f8 (tb:=⟨pt [],ht []⟩) dX dU (iN 1073743991 [] Tryz.func153) (λy=>y.1.dp.length+1) (by simp[sa]) (by simp[sa,Tryz.f153]) ?_
 rintro⟨j,q⟩ hl e x
 simp[sa]at hl x|-
 obtain⟨A,h⟩:=x
 simp[Tryz.f153,A]
 refine eQ j.dp.length (by omega) (λc e a=>Hp a/\1<=a.size/\a.get 0=some ⟨4,0,0,true,false,[j.t]⟩/\TI.dt e 1=some (.int .i64 q)/\TI.dt e 2=some (.ptr 0 0 0 0)/\TI.dt e 6=some (.int .i64 c)/\∃u d,TI.dt e 5=some u/\qZ a 1 u 1 (d.map (T.int .i64))/\d.length<=c/\d++gu q (j.dp.drop c) c=gu q j.dp 0) ?_ ?_ (by omega) ?_
 ·rintro c e a s w ⟨n,o,g,h,k,m,u,d,l,i,B,b⟩
  rw[aJ s,gu]at b
  by_cases p:(j.dp[c]).im=3
  ·by_cases r:(j.dp[c]).cond=q
   ·rw[aq ⟨p,r⟩]at b
    obtain⟨E,D,z,C,v⟩:=i.Oz (cx:=cx) o jQ rfl mJ rfl (by simp) (by simp) (c:Int) (by simp;omega)
    simp[g,h,k,l,m,s,w,p,r,z]
    refine⟨v.hp n,aS o v.size,by rw[v.get 0 (by omega)];exact g,_,C,by simp;omega,by simpa using b⟩
   ·rw[ao (λa=>r a.2)]at b
    simp[g,h,k,l,m,s,w,p,r]
    exact⟨n,o,d,i,by omega,b⟩
  ·rw[ao (λa=>p a.1)]at b
   simp[g,h,k,l,m,s,w,p]
   exact⟨n,o,d,i,by omega,b⟩
 ·rintro e a ⟨n,o,g,h,k,m,u,d,l,i,B,b⟩
  simp[gu]at b
  simp[g,k,l,m,i.fT,i.fzM (f:=T.int .i64) (by simp),b,n]
 ·simp[h]
  exact qZ.nil _ _ _
theorem BM{c:eG}(ht:c.p 153=some sa)(a:ej)(b:Int)(hl:a.dp.length<=1099511627776):rl Tryz.prog cx c 153 [a.t,.int .i64 b]=some (sl ((gu b a.dp 0).map (T.int .i64))):=fR ht Ky (a,b) hl
theorem L8(a:List Int)(b:Int):(sr a b).length<=a.length+1:=by
 induction a with
 |nil=>simp[sr]
 |cons d a c=>rw[sr];split<;>(try split)<;>simp<;>omega
def kU(a:List Int)(b:List Int):List Int:=b.foldl sr a
theorem wC(a b:List Int):(kU a b).length<=a.length+b.length:=by
 induction b generalizing a with
 |nil=>simp[kU]
 |cons c b d=>
  have e:=d (sr a c)
  have f:=L8 a c
  show(kU (sr a c) b).length<=_
  simp;omega
theorem y8(c b:List Int){a:Nat}(d:a<b.length):kU c (b.take (a+1))=sr (kU c (b.take a)) b[a]:=by
 rw[bj d];unfold kU;rw[List.foldl_append];rfl
def xZ(a b:List Int):List Int:=kU (kU [] a) b
end
end Go.Proofs.YtmaeadedikngoaaGreatDoor
