/- Texts W08 to W08c. -/
import Derived.Test.YtmaeadedikngoaaGreatDoorA10
import Derived.Test.YtmaeadedikngoaaGreatDoorA13
set_option linter.all false
set_option maxRecDepth 100000
set_option maxHeartbeats 8000000
namespace Go.Proofs.YtmaeadedikngoaaGreatDoor
noncomputable section
open Go Go.TI
attribute [-simp] List.map_take List.map_drop List.map_append
def qI:hU:=⟨Int×Nat,λa=>[dE a.1,dE a.2],λa=>True,λa=> .bool (je a.1 a.2),λa c b=>by simp at b;rw[b.1,show a.2=c.2 by omega]⟩
def V0:qI.Ok Tryz.prog cx 151:=by
 refine iv (tb:=⟨pt [],ht []⟩) fa eQ (iR 19 [] Tryz.func151) (λf=>1) (by simp[qI]) (by simp[qI,Tryz.f151]) ?_;rintro⟨e,g⟩ _ h a;simp[qI]at a|-;obtain⟨b,c⟩:=a;by_cases d:0<=e<;>simp[Tryz.f151,b,c,d,je]
def E2{c:fJ}(ht:c.p 151=some qI)(a:Int)(b:Nat):rl Tryz.prog cx c 151 [dE a,dE b]=some (.bool (je a b)):=im ht V0 (a,b) trivial
def xD:hU:=⟨d8×Int×Int,λa=>[a.1.t,dE a.2.1,dE a.2.2],λa=>True,λa=> .bool (jQ a.1 a.2.1 a.2.2),λa c b=>by simp at b;rw[d8.inj b.1,b.2.1,b.2.2]⟩
def Sa:xD.Ok Tryz.prog cx 152:=by
 refine iv (tb:=⟨pt [(151,qI)],ht []⟩) fa eQ (iR 606826398900554784047567 [] Tryz.func152) (λn=>1) (by simp[xD]) (by simp[xD,Tryz.f152]) ?_;rintro⟨m,a,l⟩ _ p g;simp[xD]at g|-;obtain⟨d,c,e⟩:=g;by_cases i:1<=a/\a<=23
 ·have h:a=1\/a=2\/a=3\/a=4\/a=5\/a=6\/a=7\/a=8\/a=9\/a=10\/a=11\/a=12\/a=13\/a=14\/a=15\/a=16\/a=17\/a=18\/a=19\/a=20\/a=21\/a=22\/a=23:=dz;rcases h with rfl|rfl|rfl|rfl|rfl|rfl|rfl|rfl|rfl|rfl|rfl|rfl|rfl|rfl|rfl|rfl|rfl|rfl|rfl|rfl|rfl|rfl|rfl
  case inr.inr.inr.inr.inr.inl|inr.inr.inr.inr.inr.inr.inl|inr.inr.inr.inr.inr.inr.inr.inl|inr.inr.inr.inr.inr.inr.inr.inr.inl|inr.inr.inr.inr.inr.inr.inr.inr.inr.inl|inr.inr.inr.inr.inr.inr.inr.inr.inr.inr.inl=>
   cases hl:je l m.em.length with
   |true=>
    obtain⟨q,j,k⟩:=iI hl;simp[Tryz.f152,d,c,e,E2,hl,j,k,jQ,eK (fq.1 hl).1]
   |false=>simp[Tryz.f152,d,c,e,E2,hl,rf hl,jQ]
  all_goals simp [Tryz.f152,d,c,e,E2,jQ]
 ·have b:∀f:Int,1<=f->f<=23->¬a=f:=λf c e o=>i dz;simp[Tryz.f152,d,c,jQ,b 1,b 2,b 3,b 4,b 5,b 6,b 7,b 8,b 9,b 10,b 11,b 12,b 13,b 14,b 15,b 16,b 17,b 18,b 19,b 20,b 21,b 22,b 23]
def QI{d:fJ}(ht:d.p 152=some xD)(c:d8)(a b:Int):rl Tryz.prog cx d 152 [c.t,dE a,dE b]=some (.bool (jQ c a b)):=im ht Sa (c,a,b) trivial
def qS:hU:=⟨d8×fH,λa=>[a.1.t,a.2.t],λa=>a.1.gW.length<=1099511627776,λa=> .bool (mQ a.1 a.2),λa c b=>by simp at b;rw[d8.inj b.1,fH.inj b.2]⟩
def Pk:qS.Ok Tryz.prog cx 111:=by
 refine iv (tb:=⟨pt [],ht []⟩) fa eQ (iR 2147484735 [] Tryz.func111) (λo=>o.1.gW.length+1) (by simp[qS]) (by simp[qS,Tryz.f111]) ?_;rintro⟨a,m⟩ hl d n;simp[qS]at hl n|-;obtain⟨p,q⟩:=n;simp[Tryz.f111,p,q];refine fy a.gW.length dz (λb d k=>k=H.cons (H.cons hE (dG 6 0 [a.t])) (dG 4 0 [m.t])/\dH d 2 (.ptr 0 0 0 0)/\dH d 3 (.ptr 1 0 0 0)/\dH d 5 (dE b)/\(a.gW.drop b).all (λe=>je e.kJ a.em.length)=a.gW.all λe=>je e.kJ a.em.length) ?_ ?_ dz dA
 ·rintro b d k j r ⟨rfl,f,l,g,c⟩;rw[aJ j,cE]at c;by_cases h:(a.gW[b]).kJ<0
  ·have:je (a.gW[b]).kJ a.em.length=false:=by simp[je];omega
   simp[f,g,j,h,mQ,<-c,this]
  ·by_cases i:(a.em.length:Int)<=(a.gW[b]).kJ
   ·have:je (a.gW[b]).kJ a.em.length=false:=by simp[je];omega
    simp[f,g,j,h,i,mQ,<-c,this]
   ·have:je (a.gW[b]).kJ a.em.length=true:=by simp[je];omega
    rw[this,bP]at c;simp[f,l,g,j,h,i,r,c]
 ·rintro d k ⟨rfl,f,l,g,c⟩;have s:(a.gW.all λe=>je e.kJ a.em.length)=true:=by rw[<-c];simp
  by_cases h:m.em.length=a.em.length<;>by_cases i:m.done.length=a.eg.length<;>simp[f,l,g,mQ,s,h,i,Int.natCast_inj]
def uT{c:fJ}(ht:c.p 111=some qS)(a:d8)(b:fH)(hl:a.gW.length<=1099511627776):rl Tryz.prog cx c 111 [a.t,b.t]=some (.bool (mQ a b)):=im ht Pk (a,b) hl
def tQ:hU:=⟨fH×Int,λa=>[a.1.t,dE a.2],λa=>a.1.dK.length<=1099511627776,λa=>sl ((iz a.2 a.1.dK 0).map (T.int .i64)),λa c b=>by simp at b;rw[fH.inj b.1,b.2]⟩
def Mt:tQ.Ok Tryz.prog cx 153:=by
 refine iv (tb:=⟨pt [],ht []⟩) fa eQ (iR 1073743991 [] Tryz.func153) (λy=>y.1.dK.length+1) (by simp[tQ]) (by simp[tQ,Tryz.f153]) ?_;rintro⟨j,q⟩ hl e x;simp[tQ]at hl x|-;obtain⟨A,h⟩:=x;simp[Tryz.f153,A];refine fy j.dK.length dz (λc e a=>Hp a/\1<=a.size/\a.get 0=some (dG 4 0 [j.t])/\dH e 1 (dE q)/\dH e 2 (.ptr 0 0 0 0)/\dH e 6 (dE c)/\∃u d,dH e 5 u/\so a 1 u 1 (d.map (T.int .i64))/\d.length<=c/\d++iz q (j.dK.drop c) c=iz q j.dK 0) ?_ ?_ dz ?_
 ·rintro c e a s w ⟨n,o,g,h,k,m,u,d,l,i,B,b⟩;rw[aJ s,iz]at b;by_cases p:(j.dK[c]).iL=3
  ·by_cases r:(j.dK[c]).cond=q
   ·rw[aq ⟨p,r⟩]at b;obtain⟨E,D,z,C,v⟩:=i.QZ (cx:=cx) o ko rfl nc rfl dA dA (c:Int) dB;simp[g,h,k,l,m,s,w,p,r,z];refine⟨v.hp n,aS o v.size,by rw[v.get 0 dz];exact g,_,C,dB,by simpa using b⟩
   ·rw[ao (λa=>r a.2)]at b;simp[g,h,k,l,m,s,w,p,r];exact⟨n,o,d,i,dz,b⟩
  ·rw[ao (λa=>p a.1)]at b;simp[g,h,k,l,m,s,w,p];exact⟨n,o,d,i,dz,b⟩
 ·rintro e a ⟨n,o,g,h,k,m,u,d,l,i,B,b⟩;simp[iz]at b;simp[g,k,l,m,i.il,i.fzM (f:=T.int .i64) dA,b,n]
 ·simp[h];exact so.nil _ _ _
def Db{c:fJ}(ht:c.p 153=some tQ)(a:fH)(b:Int)(hl:a.dK.length<=1099511627776):rl Tryz.prog cx c 153 [a.t,dE b]=some (sl ((iz b a.dK 0).map (T.int .i64))):=im ht Mt (a,b) hl
def Og(a:List Int)(b:Int):(t7 a b).length<=a.length+1:=by
 induction a with
 |nil=>simp[t7]
 |cons d a c=>rw[t7];split<;>(try split)<;>simp<;>omega
def lY(a:List Int)(b:List Int):List Int:=b.foldl t7 a
def xI(a b:List Int):(lY a b).length<=a.length+b.length:=by
 induction b generalizing a with
 |nil=>simp[lY]
 |cons c b d=>
  have e:=d (t7 a c);have f:=Og a c;show(lY (t7 a c) b).length<=_;simp;omega
def AM(c b:List Int){a:Nat}(d:a<b.length):lY c (b.take (a+1))=t7 (lY c (b.take a)) b[a]:=by
 rw[aZ d];unfold lY;rw[List.foldl_append];rfl
def zo(a b:List Int):List Int:=lY (lY [] a) b
def og:hU:=⟨d8×fH×Int×Int×Int,λa=>[a.1.t,a.2.1.t,dE a.2.2.1,dE a.2.2.2.1,dE a.2.2.2.2],λa=>a.1.gW.length<=1099511627776/\a.2.1.sm,λa=> .bool (jR a.1 a.2.1 a.2.2.1 a.2.2.2.1 a.2.2.2.2),λa c b=>by
 simp at b;rw[d8.inj b.1,fH.inj b.2.1,b.2.2.1,b.2.2.2.1,b.2.2.2.2]⟩
def ZT:fJ:=⟨pt [(151,qI),(152,xD),(111,qS),(56,Ba)],ht []⟩
@[simp] theorem adD:ZT.p=pt [(151,qI),(152,xD),(111,qS),(56,Ba)]:=id rfl
def HB:og.Ok Tryz.prog cx 104:=by
 refine iv (tb:=ZT) fa eQ (iR 13215461614728367217751695970865548304603543200842114553566203007 [] Tryz.func104) (λV=>1) (by simp[og]) (by simp[og,Tryz.f104]) ?_;rintro⟨n,j,r,x,d⟩ ⟨hl,D⟩ X A;simp[og]at hl D A|-;obtain⟨s,t,o,y,p⟩:=A;cases k:mQ n j with
 |false=>simp[Tryz.f104,s,t,uT,hl,k,jR]
 |true=>
  cases m:je r n.dK.length with
  |false=>simp[Tryz.f104,s,t,o,uT,hl,k,E2,m,jR]
  |true=>
   cases f:jQ n x d with
   |false=>simp[Tryz.f104,s,t,o,y,p,uT,hl,k,E2,m,QI,f,jR]
   |true=>
    obtain⟨E,T,F⟩:=oD k;have B:=m;rw[<-F]at B;obtain⟨i,L,M⟩:=iI B;have P:=eK (fq.1 m).1;have hE:jR n j r x d=BA n j r x d:=by simp[jR,k,m,f]
    have c:pW j r=i:=by simp[pW,M]
    rw[hE];simp[Tryz.f104,s,t,o,y,p,uT,hl,k,E2,m,QI,f,P,L];rcases uc f with rfl|rfl|rfl|rfl|rfl|rfl|rfl|rfl|rfl|g|g|g|g
    case inl|inr.inl|inr.inr.inl|inr.inr.inr.inl|inr.inr.inr.inr.inl|inr.inr.inr.inr.inr.inl|inr.inr.inr.inr.inr.inr.inl|inr.inr.inr.inr.inr.inr.inr.inl|inr.inr.inr.inr.inr.inr.inr.inr.inl=>
     by_cases b:i.iL=2<;>simp[BA,c,b]
    ·have a:=kV f g;rw[<-E]at a;obtain⟨l,q,u⟩:=iI a;have h:=eK (fq.1 a).1;have e:mK j d=l:=by simp[mK,u]
     have O:l.eJ.length<=1099511627776:=by have:=D.2.2.2 l (ax q);omega
     by_cases b:i.iL=2
     ·by_cases S:l.iX=-1<;>rcases g with rfl|rfl|rfl|rfl|rfl|rfl<;>simp[o,p,h,q,BA,c,b,e,S,Nj,O]
     ·rcases g with rfl|rfl|rfl|rfl|rfl|rfl<;>simp[BA,c,b]
    ·have a:=oo f g;obtain⟨W,v,H⟩:=iI a;have h:=eK (fq.1 a).1;have w:=r7 k v;rw[<-E]at w;obtain⟨l,q,u⟩:=iI w;have C:=eK (fq.1 w).1;have e:r9 n j d=l:=by simp[r9,H,mK,u]
     by_cases b:i.iL=2
     ·rcases g with rfl|rfl|rfl|rfl<;>simp[o,h,v,C,q,BA,c,b,e]
     ·by_cases z:i.iL=4
      ·by_cases I:i.cond=d<;>rcases g with rfl|rfl|rfl|rfl<;>simp[p,h,v,C,q,BA,c,e,z,I]
      ·rcases g with rfl|rfl|rfl|rfl<;>simp[BA,c,b,z]
    ·have a:=wG f g;rw[<-F]at a;obtain⟨U,Q,R⟩:=iI a;have h:=eK (fq.1 a).1;have e:pW j d=U:=by simp[pW,R]
     by_cases b:i.iL=2
     ·by_cases N:d=r<;>rcases g with rfl|rfl<;>simp[p,h,Q,BA,c,b,e,N]
     ·rcases g with rfl|rfl<;>simp[BA,c,b]
    ·have a:=rx f g;rw[<-T]at a;obtain⟨G,J,K⟩:=iI a;have h:=eK (fq.1 a).1;have e:C4 j d=G:=by simp[C4,K]
     by_cases b:i.iL=2
     ·rcases g with rfl|rfl<;>simp[h,J,BA,c,b,e]
     ·rcases g with rfl|rfl<;>simp[BA,c,b]
def x6{f:fJ}(ht:f.p 104=some og)(b:d8)(a:fH)(e c d:Int)(hl:b.gW.length<=1099511627776)(g:a.sm):rl Tryz.prog cx f 104 [b.t,a.t,dE e,dE c,dE d]=some (.bool (jR b a e c d)):=im ht HB (b,a,e,c,d) ⟨hl,g⟩
end
end Go.Proofs.YtmaeadedikngoaaGreatDoor
