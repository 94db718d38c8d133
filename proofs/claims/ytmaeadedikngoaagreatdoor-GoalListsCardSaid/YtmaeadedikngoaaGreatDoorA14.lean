/- Texts W08 to W08c. -/
import Derived.Test.YtmaeadedikngoaaGreatDoorA10
import Derived.Test.YtmaeadedikngoaaGreatDoorA13
set_option linter.all false
set_option maxRecDepth 100000
set_option maxHeartbeats 8000000
namespace Go.Proofs.YtmaeadedikngoaaGreatDoor
noncomputable section
open Go Go.TI
attribute [-simp] List.map_take List.map_drop List.map_append
def qG:iq:=⟨Int×Nat,λa=>[dG a.1,dG a.2],λa=>True,λa=> .bool (jt a.1 a.2),λa c b=>by simp at b;rw[b.1,show a.2=c.2 by omega]⟩
def VH:qG.Ok Tryz.prog cx 151:=by
 refine iC (tb:=⟨pt [],ht []⟩) fc fa (je 19 [] Tryz.func151) (λf=>1) (by simp[qG]) (by simp[qG,Tryz.f151]) ?_;rintro⟨e,g⟩ _ h a;simp[qG]at a|-;obtain⟨b,c⟩:=a;by_cases d:0<=e<;>simp[Tryz.f151,b,c,d,jt]
def EW{c:fN}(ht:c.p 151=some qG)(a:Int)(b:Nat):rl Tryz.prog cx c 151 [dG a,dG b]=some (.bool (jt a b)):=iv ht VH (a,b) trivial
def xz:iq:=⟨ee×Int×Int,λa=>[a.1.t,dG a.2.1,dG a.2.2],λa=>True,λa=> .bool (j1 a.1 a.2.1 a.2.2),λa c b=>by simp at b;rw[ee.inj b.1,b.2.1,b.2.2]⟩
def RR:xz.Ok Tryz.prog cx 152:=by
 refine iC (tb:=⟨pt [(151,qG)],ht []⟩) fc fa (je 606826398900554784047567 [] Tryz.func152) (λn=>1) (by simp[xz]) (by simp[xz,Tryz.f152]) ?_;rintro⟨m,a,l⟩ _ p g;simp[xz]at g|-;obtain⟨d,c,e⟩:=g;by_cases i:1<=a/\a<=23
 ·have h:a=1\/a=2\/a=3\/a=4\/a=5\/a=6\/a=7\/a=8\/a=9\/a=10\/a=11\/a=12\/a=13\/a=14\/a=15\/a=16\/a=17\/a=18\/a=19\/a=20\/a=21\/a=22\/a=23:=dB;rcases h with rfl|rfl|rfl|rfl|rfl|rfl|rfl|rfl|rfl|rfl|rfl|rfl|rfl|rfl|rfl|rfl|rfl|rfl|rfl|rfl|rfl|rfl|rfl
  case inr.inr.inr.inr.inr.inl|inr.inr.inr.inr.inr.inr.inl|inr.inr.inr.inr.inr.inr.inr.inl|inr.inr.inr.inr.inr.inr.inr.inr.inl|inr.inr.inr.inr.inr.inr.inr.inr.inr.inl|inr.inr.inr.inr.inr.inr.inr.inr.inr.inr.inl=>
   cases hl:jt l m.ew.length with
   |true=>
    obtain⟨q,j,k⟩:=iK hl;simp[Tryz.f152,d,c,e,EW,hl,j,k,j1,eQ (fw.1 hl).1]
   |false=>simp[Tryz.f152,d,c,e,EW,hl,qX hl,j1]
  all_goals simp [Tryz.f152,d,c,e,EW,j1]
 ·have b:∀f:Int,1<=f->f<=23->¬a=f:=λf c e o=>i dB;simp[Tryz.f152,d,c,j1,b 1,b 2,b 3,b 4,b 5,b 6,b 7,b 8,b 9,b 10,b 11,b 12,b 13,b 14,b 15,b 16,b 17,b 18,b 19,b 20,b 21,b 22,b 23]
def Qr{d:fN}(ht:d.p 152=some xz)(c:ee)(a b:Int):rl Tryz.prog cx d 152 [c.t,dG a,dG b]=some (.bool (j1 c a b)):=iv ht RR (c,a,b) trivial
def qP:iq:=⟨ee×fK,λa=>[a.1.t,a.2.t],λa=>a.1.gW.length<=1099511627776,λa=> .bool (mK a.1 a.2),λa c b=>by simp at b;rw[ee.inj b.1,fK.inj b.2]⟩
def O0:qP.Ok Tryz.prog cx 111:=by
 refine iC (tb:=⟨pt [],ht []⟩) fc fa (je 2147484735 [] Tryz.func111) (λo=>o.1.gW.length+1) (by simp[qP]) (by simp[qP,Tryz.f111]) ?_;rintro⟨a,m⟩ hl d n;simp[qP]at hl n|-;obtain⟨p,q⟩:=n;simp[Tryz.f111,p,q];refine fI a.gW.length dB (λb d k=>k=H.cons (H.cons hE (dI 6 0 [a.t])) (dI 4 0 [m.t])/\dJ d 2 (.ptr 0 0 0 0)/\dJ d 3 (.ptr 1 0 0 0)/\dJ d 5 (dG b)/\(a.gW.drop b).all (λe=>jt e.kG a.ew.length)=a.gW.all λe=>jt e.kG a.ew.length) ?_ ?_ dB dC
 ·rintro b d k j r ⟨rfl,f,l,g,c⟩;rw[aI j,cJ]at c;by_cases h:(a.gW[b]).kG<0
  ·have:jt (a.gW[b]).kG a.ew.length=false:=by simp[jt];omega
   simp[f,g,j,h,mK,<-c,this]
  ·by_cases i:(a.ew.length:Int)<=(a.gW[b]).kG
   ·have:jt (a.gW[b]).kG a.ew.length=false:=by simp[jt];omega
    simp[f,g,j,h,i,mK,<-c,this]
   ·have:jt (a.gW[b]).kG a.ew.length=true:=by simp[jt];omega
    rw[this,bO]at c;simp[f,l,g,j,h,i,r,c]
 ·rintro d k ⟨rfl,f,l,g,c⟩;have s:(a.gW.all λe=>jt e.kG a.ew.length)=true:=by rw[<-c];simp
  by_cases h:m.ew.length=a.ew.length<;>by_cases i:m.done.length=a.ei.length<;>simp[f,l,g,mK,s,h,i,Int.natCast_inj]
def uT{c:fN}(ht:c.p 111=some qP)(a:ee)(b:fK)(hl:a.gW.length<=1099511627776):rl Tryz.prog cx c 111 [a.t,b.t]=some (.bool (mK a b)):=iv ht O0 (a,b) hl
def tR:iq:=⟨fK×Int,λa=>[a.1.t,dG a.2],λa=>a.1.dM.length<=1099511627776,λa=>sl ((iz a.2 a.1.dM 0).map (T.int .i64)),λa c b=>by simp at b;rw[fK.inj b.1,b.2]⟩
def Mf:tR.Ok Tryz.prog cx 153:=by
 refine iC (tb:=⟨pt [],ht []⟩) fc fa (je 1073743991 [] Tryz.func153) (λy=>y.1.dM.length+1) (by simp[tR]) (by simp[tR,Tryz.f153]) ?_;rintro⟨j,q⟩ hl e x;simp[tR]at hl x|-;obtain⟨A,h⟩:=x;simp[Tryz.f153,A];refine fI j.dM.length dB (λc e a=>Hp a/\1<=a.size/\a.get 0=some (dI 4 0 [j.t])/\dJ e 1 (dG q)/\dJ e 2 (.ptr 0 0 0 0)/\dJ e 6 (dG c)/\∃u d,dJ e 5 u/\sj a 1 u 1 (d.map (T.int .i64))/\d.length<=c/\d++iz q (j.dM.drop c) c=iz q j.dM 0) ?_ ?_ dB ?_
 ·rintro c e a s w ⟨n,o,g,h,k,m,u,d,l,i,B,b⟩;rw[aI s,iz]at b;by_cases p:(j.dM[c]).iN=3
  ·by_cases r:(j.dM[c]).cond=q
   ·rw[aq ⟨p,r⟩]at b;obtain⟨E,D,z,C,v⟩:=i.QL (cx:=cx) o kz rfl mM rfl dC dC (c:Int) dD;simp[g,h,k,l,m,s,w,p,r,z];refine⟨v.hp n,aS o v.size,by rw[v.get 0 dB];exact g,_,C,dD,by simpa using b⟩
   ·rw[ao (λa=>r a.2)]at b;simp[g,h,k,l,m,s,w,p,r];exact⟨n,o,d,i,dB,b⟩
  ·rw[ao (λa=>p a.1)]at b;simp[g,h,k,l,m,s,w,p];exact⟨n,o,d,i,dB,b⟩
 ·rintro e a ⟨n,o,g,h,k,m,u,d,l,i,B,b⟩;simp[iz]at b;simp[g,k,l,m,i.im,i.fzM (f:=T.int .i64) dC,b,n]
 ·simp[h];exact sj.nil _ _ _
def C1{c:fN}(ht:c.p 153=some tR)(a:fK)(b:Int)(hl:a.dM.length<=1099511627776):rl Tryz.prog cx c 153 [a.t,dG b]=some (sl ((iz b a.dM 0).map (T.int .i64))):=iv ht Mf (a,b) hl
def N5(a:List Int)(b:Int):(t7 a b).length<=a.length+1:=by
 induction a with
 |nil=>simp[t7]
 |cons d a c=>rw[t7];split<;>(try split)<;>simp<;>omega
def lL(a:List Int)(b:List Int):List Int:=b.foldl t7 a
def xH(a b:List Int):(lL a b).length<=a.length+b.length:=by
 induction b generalizing a with
 |nil=>simp[lL]
 |cons c b d=>
  have e:=d (t7 a c);have f:=N5 a c;show(lL (t7 a c) b).length<=_;simp;omega
def AD(c b:List Int){a:Nat}(d:a<b.length):lL c (b.take (a+1))=t7 (lL c (b.take a)) b[a]:=by
 rw[aW d];unfold lL;rw[List.foldl_append];rfl
def zk(a b:List Int):List Int:=lL (lL [] a) b
def nZ:iq:=⟨ee×fK×Int×Int×Int,λa=>[a.1.t,a.2.1.t,dG a.2.2.1,dG a.2.2.2.1,dG a.2.2.2.2],λa=>a.1.gW.length<=1099511627776/\a.2.1.sm,λa=> .bool (jR a.1 a.2.1 a.2.2.1 a.2.2.2.1 a.2.2.2.2),λa c b=>by
 simp at b;rw[ee.inj b.1,fK.inj b.2.1,b.2.2.1,b.2.2.2.1,b.2.2.2.2]⟩
def ZJ:fN:=⟨pt [(151,qG),(152,xz),(111,qP),(56,Dv)],ht []⟩
@[simp] theorem adq:ZJ.p=pt [(151,qG),(152,xz),(111,qP),(56,Dv)]:=id rfl
def Ht:nZ.Ok Tryz.prog cx 104:=by
 refine iC (tb:=ZJ) fc fa (je 13215461614728367217751695970865548304603543200842114553566203007 [] Tryz.func104) (λV=>1) (by simp[nZ]) (by simp[nZ,Tryz.f104]) ?_;rintro⟨n,j,r,x,d⟩ ⟨hl,D⟩ X A;simp[nZ]at hl D A|-;obtain⟨s,t,o,y,p⟩:=A;cases k:mK n j with
 |false=>simp[Tryz.f104,s,t,uT,hl,k,jR]
 |true=>
  cases m:jt r n.dM.length with
  |false=>simp[Tryz.f104,s,t,o,uT,hl,k,EW,m,jR]
  |true=>
   cases f:j1 n x d with
   |false=>simp[Tryz.f104,s,t,o,y,p,uT,hl,k,EW,m,Qr,f,jR]
   |true=>
    obtain⟨E,T,F⟩:=ou k;have B:=m;rw[<-F]at B;obtain⟨i,L,M⟩:=iK B;have P:=eQ (fw.1 m).1;have hE:jR n j r x d=Bq n j r x d:=by simp[jR,k,m,f]
    have c:pS j r=i:=by simp[pS,M]
    rw[hE];simp[Tryz.f104,s,t,o,y,p,uT,hl,k,EW,m,Qr,f,P,L];rcases uc f with rfl|rfl|rfl|rfl|rfl|rfl|rfl|rfl|rfl|g|g|g|g
    case inl|inr.inl|inr.inr.inl|inr.inr.inr.inl|inr.inr.inr.inr.inl|inr.inr.inr.inr.inr.inl|inr.inr.inr.inr.inr.inr.inl|inr.inr.inr.inr.inr.inr.inr.inl|inr.inr.inr.inr.inr.inr.inr.inr.inl=>
     by_cases b:i.iN=2<;>simp[Bq,c,b]
    ·have a:=mV f g;rw[<-E]at a;obtain⟨l,q,u⟩:=iK a;have h:=eQ (fw.1 a).1;have e:mE j d=l:=by simp[mE,u]
     have O:l.eY.length<=1099511627776:=by have:=D.2.2.2 l (ax q);omega
     by_cases b:i.iN=2
     ·by_cases S:l.iW=-1<;>rcases g with rfl|rfl|rfl|rfl|rfl|rfl<;>simp[o,p,h,q,Bq,c,b,e,S,WY,O]
     ·rcases g with rfl|rfl|rfl|rfl|rfl|rfl<;>simp[Bq,c,b]
    ·have a:=py f g;obtain⟨W,v,H⟩:=iK a;have h:=eQ (fw.1 a).1;have w:=rY k v;rw[<-E]at w;obtain⟨l,q,u⟩:=iK w;have C:=eQ (fw.1 w).1;have e:r6 n j d=l:=by simp[r6,H,mE,u]
     by_cases b:i.iN=2
     ·rcases g with rfl|rfl|rfl|rfl<;>simp[o,h,v,C,q,Bq,c,b,e]
     ·by_cases z:i.iN=4
      ·by_cases I:i.cond=d<;>rcases g with rfl|rfl|rfl|rfl<;>simp[p,h,v,C,q,Bq,c,e,z,I]
      ·rcases g with rfl|rfl|rfl|rfl<;>simp[Bq,c,b,z]
    ·have a:=wE f g;rw[<-F]at a;obtain⟨U,Q,R⟩:=iK a;have h:=eQ (fw.1 a).1;have e:pS j d=U:=by simp[pS,R]
     by_cases b:i.iN=2
     ·by_cases N:d=r<;>rcases g with rfl|rfl<;>simp[p,h,Q,Bq,c,b,e,N]
     ·rcases g with rfl|rfl<;>simp[Bq,c,b]
    ·have a:=rj f g;rw[<-T]at a;obtain⟨G,J,K⟩:=iK a;have h:=eQ (fw.1 a).1;have e:CU j d=G:=by simp[CU,K]
     by_cases b:i.iN=2
     ·rcases g with rfl|rfl<;>simp[h,J,Bq,c,b,e]
     ·rcases g with rfl|rfl<;>simp[Bq,c,b]
def xY{f:fN}(ht:f.p 104=some nZ)(b:ee)(a:fK)(e c d:Int)(hl:b.gW.length<=1099511627776)(g:a.sm):rl Tryz.prog cx f 104 [b.t,a.t,dG e,dG c,dG d]=some (.bool (jR b a e c d)):=iv ht Ht (b,a,e,c,d) ⟨hl,g⟩
end
end Go.Proofs.YtmaeadedikngoaaGreatDoor
