/- Texts W08 to W08c. -/
import Derived.Test.YtmaeadedikngoaaGreatDoorA14
set_option linter.unusedVariables false
set_option linter.unusedSimpArgs false
set_option linter.defProp false
set_option maxRecDepth 100000
set_option maxHeartbeats 8000000
namespace Go.Proofs.YtmaeadedikngoaaGreatDoor
noncomputable section
open Go Go.TI
attribute [-simp] List.map_take List.map_drop List.map_append
def pT:f7:=⟨Int×Nat,λa=>[dw a.1,dw a.2],λa=>True,λa=> .bool (iP a.1 a.2),λa c b=>by simp at b;rw[b.1,show a.2=c.2 by omega]⟩
def Ul:pT.Ok Tryz.prog cx 151:=by
 refine gH (tb:=⟨pt [],ht []⟩) ei eg (iL 19 [] Tryz.func151) (λf=>1) (by simp[pT]) (by simp[pT,Tryz.f151]) ?_;rintro⟨e,g⟩ _ h a;simp[pT]at a|-;obtain⟨b,c⟩:=a;by_cases d:0<=e<;>simp[Tryz.f151,b,c,d,iP]
def Ec{c:fq}(ht:c.p 151=some pT)(a:Int)(b:Nat):rl Tryz.prog cx c 151 [dw a,dw b]=some (.bool (iP a b)):=gF ht Ul (a,b) trivial
def wO:f7:=⟨dR×Int×Int,λa=>[a.1.t,dw a.2.1,dw a.2.2],λa=>True,λa=> .bool (jy a.1 a.2.1 a.2.2),λa c b=>by simp at b;rw[dR.inj b.1,b.2.1,b.2.2]⟩
def QC:wO.Ok Tryz.prog cx 152:=by
 refine gH (tb:=⟨pt [(151,pT)],ht []⟩) ei eg (iL 606826398900554784047567 [] Tryz.func152) (λn=>1) (by simp[wO]) (by simp[wO,Tryz.f152]) ?_;rintro⟨m,a,l⟩ _ p g;simp[wO]at g|-;obtain⟨d,c,e⟩:=g;by_cases i:1<=a/\a<=23
 ·have h:a=1\/a=2\/a=3\/a=4\/a=5\/a=6\/a=7\/a=8\/a=9\/a=10\/a=11\/a=12\/a=13\/a=14\/a=15\/a=16\/a=17\/a=18\/a=19\/a=20\/a=21\/a=22\/a=23:=dj;rcases h with rfl|rfl|rfl|rfl|rfl|rfl|rfl|rfl|rfl|rfl|rfl|rfl|rfl|rfl|rfl|rfl|rfl|rfl|rfl|rfl|rfl|rfl|rfl
  case inr.inr.inr.inr.inr.inl|inr.inr.inr.inr.inr.inr.inl|inr.inr.inr.inr.inr.inr.inr.inl|inr.inr.inr.inr.inr.inr.inr.inr.inl|inr.inr.inr.inr.inr.inr.inr.inr.inr.inl|inr.inr.inr.inr.inr.inr.inr.inr.inr.inr.inl=>
   cases hl:iP l m.dV.length with
   |true=>
    obtain⟨q,j,k⟩:=im hl;simp[Tryz.f152,d,c,e,Ec,hl,j,k,jy,ed (ff.1 hl).1]
   |false=>simp[Tryz.f152,d,c,e,Ec,hl,ql hl,jy]
  all_goals simp [Tryz.f152,d,c,e,Ec,jy]
 ·have b:∀f:Int,1<=f->f<=23->¬a=f:=λf c e o=>i dj;simp[Tryz.f152,d,c,jy,b 1,b 2,b 3,b 4,b 5,b 6,b 7,b 8,b 9,b 10,b 11,b 12,b 13,b 14,b 15,b 16,b 17,b 18,b 19,b 20,b 21,b 22,b 23]
def Pb{d:fq}(ht:d.p 152=some wO)(c:dR)(a b:Int):rl Tryz.prog cx d 152 [c.t,dw a,dw b]=some (.bool (jy c a b)):=gF ht QC (c,a,b) trivial
def p9:f7:=⟨dR×fg,λa=>[a.1.t,a.2.t],λa=>a.1.fV.length<=1099511627776,λa=> .bool (ml a.1 a.2),λa c b=>by simp at b;rw[dR.inj b.1,fg.inj b.2]⟩
def NK:p9.Ok Tryz.prog cx 111:=by
 refine gH (tb:=⟨pt [],ht []⟩) ei eg (iL 2147484735 [] Tryz.func111) (λo=>o.1.fV.length+1) (by simp[p9]) (by simp[p9,Tryz.f111]) ?_;rintro⟨a,m⟩ hl d n;simp[p9]at hl n|-;obtain⟨p,q⟩:=n;simp[Tryz.f111,p,q];refine fc a.fV.length dj (λb d k=>k=H.cons (H.cons hE (dy 6 0 [a.t])) (dy 4 0 [m.t])/\dz d 2 (.ptr 0 0 0 0)/\dz d 3 (.ptr 1 0 0 0)/\dz d 5 (dw b)/\(a.fV.drop b).all (λe=>iP e.ke a.dV.length)=a.fV.all λe=>iP e.ke a.dV.length) ?_ ?_ dj dp
 ·rintro b d k j r ⟨rfl,f,l,g,c⟩;rw[aI j,cy]at c;by_cases h:(a.fV[b]).ke<0
  ·have:iP (a.fV[b]).ke a.dV.length=false:=by simp[iP];omega
   simp[f,g,j,h,ml,<-c,this]
  ·by_cases i:(a.dV.length:Int)<=(a.fV[b]).ke
   ·have:iP (a.fV[b]).ke a.dV.length=false:=by simp[iP];omega
    simp[f,g,j,h,i,ml,<-c,this]
   ·have:iP (a.fV[b]).ke a.dV.length=true:=by simp[iP];omega
    rw[this,bK]at c;simp[f,l,g,j,h,i,r,c]
 ·rintro d k ⟨rfl,f,l,g,c⟩;have s:(a.fV.all λe=>iP e.ke a.dV.length)=true:=by rw[<-c];simp
  by_cases h:m.dV.length=a.dV.length<;>by_cases i:m.done.length=a.dT.length<;>simp[f,l,g,ml,s,h,i,Int.natCast_inj]
def uk{c:fq}(ht:c.p 111=some p9)(a:dR)(b:fg)(hl:a.fV.length<=1099511627776):rl Tryz.prog cx c 111 [a.t,b.t]=some (.bool (ml a b)):=gF ht NK (a,b) hl
def sK:f7:=⟨fg×Int,λa=>[a.1.t,dw a.2],λa=>a.1.dB.length<=1099511627776,λa=>sl ((gU a.2 a.1.dB 0).map (T.int .i64)),λa c b=>by simp at b;rw[fg.inj b.1,b.2]⟩
def K3:sK.Ok Tryz.prog cx 153:=by
 refine gH (tb:=⟨pt [],ht []⟩) ei eg (iL 1073743991 [] Tryz.func153) (λy=>y.1.dB.length+1) (by simp[sK]) (by simp[sK,Tryz.f153]) ?_;rintro⟨j,q⟩ hl e x;simp[sK]at hl x|-;obtain⟨A,h⟩:=x;simp[Tryz.f153,A];refine fc j.dB.length dj (λc e a=>Hp a/\1<=a.size/\a.get 0=some (dy 4 0 [j.t])/\dz e 1 (dw q)/\dz e 2 (.ptr 0 0 0 0)/\dz e 6 (dw c)/\∃u d,dz e 5 u/\rm a 1 u 1 (d.map (T.int .i64))/\d.length<=c/\d++gU q (j.dB.drop c) c=gU q j.dB 0) ?_ ?_ dj ?_
 ·rintro c e a s w ⟨n,o,g,h,k,m,u,d,l,i,B,b⟩;rw[aI s,gU]at b;by_cases p:(j.dB[c]).iv=3
  ·by_cases r:(j.dB[c]).cond=q
   ·rw[aq ⟨p,r⟩]at b;obtain⟨E,D,z,C,v⟩:=i.Pt (cx:=cx) o kG rfl nM rfl dp dp (c:Int) dq;simp[g,h,k,l,m,s,w,p,r,z];refine⟨v.hp n,aS o v.size,by rw[v.get 0 dj];exact g,_,C,dq,by simpa using b⟩
   ·rw[ao (λa=>r a.2)]at b;simp[g,h,k,l,m,s,w,p,r];exact⟨n,o,d,i,dj,b⟩
  ·rw[ao (λa=>p a.1)]at b;simp[g,h,k,l,m,s,w,p];exact⟨n,o,d,i,dj,b⟩
 ·rintro e a ⟨n,o,g,h,k,m,u,d,l,i,B,b⟩;simp[gU]at b;simp[g,k,l,m,i.gD,i.fzM (f:=T.int .i64) dp,b,n]
 ·simp[h];exact rm.nil _ _ _
def Cj{c:fq}(ht:c.p 153=some sK)(a:fg)(b:Int)(hl:a.dB.length<=1099511627776):rl Tryz.prog cx c 153 [a.t,dw b]=some (sl ((gU b a.dB 0).map (T.int .i64))):=gF ht K3 (a,b) hl
def MR(a:List Int)(b:Int):(sX a b).length<=a.length+1:=by
 induction a with
 |nil=>simp[sX]
 |cons d a c=>rw[sX];split<;>(try split)<;>simp<;>omega
def lj(a:List Int)(b:List Int):List Int:=b.foldl sX a
def wV(a b:List Int):(lj a b).length<=a.length+b.length:=by
 induction b generalizing a with
 |nil=>simp[lj]
 |cons c b d=>
  have e:=d (sX a c);have f:=MR a c;show(lj (sX a c) b).length<=_;simp;omega
def zQ(c b:List Int){a:Nat}(d:a<b.length):lj c (b.take (a+1))=sX (lj c (b.take a)) b[a]:=by
 rw[aU d];unfold lj;rw[List.foldl_append];rfl
def yC(a b:List Int):List Int:=lj (lj [] a) b
def nj:f7:=⟨dR×fg×Int×Int×Int,λa=>[a.1.t,a.2.1.t,dw a.2.2.1,dw a.2.2.2.1,dw a.2.2.2.2],λa=>a.1.fV.length<=1099511627776/\a.2.1.sm,λa=> .bool (jI a.1 a.2.1 a.2.2.1 a.2.2.2.1 a.2.2.2.2),λa c b=>by
 simp at b;rw[dR.inj b.1,fg.inj b.2.1,b.2.2.1,b.2.2.2.1,b.2.2.2.2]⟩
def Yb:fq:=⟨pt [(151,pT),(152,wO),(111,p9),(56,Bi)],ht []⟩
@[simp] theorem abK:Yb.p=pt [(151,pT),(152,wO),(111,p9),(56,Bi)]:=id rfl
def Gs:nj.Ok Tryz.prog cx 104:=by
 refine gH (tb:=Yb) ei eg (iL 13215461614728367217751695970865548304603543200842114553566203007 [] Tryz.func104) (λV=>1) (by simp[nj]) (by simp[nj,Tryz.f104]) ?_;rintro⟨n,j,r,x,d⟩ ⟨hl,D⟩ X A;simp[nj]at hl D A|-;obtain⟨s,t,o,y,p⟩:=A;cases k:ml n j with
 |false=>simp[Tryz.f104,s,t,uk,hl,k,jI]
 |true=>
  cases m:iP r n.dB.length with
  |false=>simp[Tryz.f104,s,t,o,uk,hl,k,Ec,m,jI]
  |true=>
   cases f:jy n x d with
   |false=>simp[Tryz.f104,s,t,o,y,p,uk,hl,k,Ec,m,Pb,f,jI]
   |true=>
    obtain⟨E,T,F⟩:=nK k;have B:=m;rw[<-F]at B;obtain⟨i,L,M⟩:=im B;have P:=ed (ff.1 m).1;have hE:jI n j r x d=AQ n j r x d:=by simp[jI,k,m,f]
    have c:o6 j r=i:=by simp[o6,M]
    rw[hE];simp[Tryz.f104,s,t,o,y,p,uk,hl,k,Ec,m,Pb,f,P,L];rcases ta f with rfl|rfl|rfl|rfl|rfl|rfl|rfl|rfl|rfl|g|g|g|g
    case inl|inr.inl|inr.inr.inl|inr.inr.inr.inl|inr.inr.inr.inr.inl|inr.inr.inr.inr.inr.inl|inr.inr.inr.inr.inr.inr.inl|inr.inr.inr.inr.inr.inr.inr.inl|inr.inr.inr.inr.inr.inr.inr.inr.inl=>
     by_cases b:i.iv=2<;>simp[AQ,c,b]
    ·have a:=kw f g;rw[<-E]at a;obtain⟨l,q,u⟩:=im a;have h:=ed (ff.1 a).1;have e:ma j d=l:=by simp[ma,u]
     have O:l.d8.length<=1099511627776:=by have:=D.2.2.2 l (ax q);omega
     by_cases b:i.iv=2
     ·by_cases S:l.iF=-1<;>rcases g with rfl|rfl|rfl|rfl|rfl|rfl<;>simp[o,p,h,q,AQ,c,b,e,S,Ph,O]
     ·rcases g with rfl|rfl|rfl|rfl|rfl|rfl<;>simp[AQ,c,b]
    ·have a:=ny f g;obtain⟨W,v,H⟩:=im a;have h:=ed (ff.1 a).1;have w:=qW k v;rw[<-E]at w;obtain⟨l,q,u⟩:=im w;have C:=ed (ff.1 w).1;have e:qY n j d=l:=by simp[qY,H,ma,u]
     by_cases b:i.iv=2
     ·rcases g with rfl|rfl|rfl|rfl<;>simp[o,h,v,C,q,AQ,c,b,e]
     ·by_cases z:i.iv=4
      ·by_cases I:i.cond=d<;>rcases g with rfl|rfl|rfl|rfl<;>simp[p,h,v,C,q,AQ,c,e,z,I]
      ·rcases g with rfl|rfl|rfl|rfl<;>simp[AQ,c,b,z]
    ·have a:=vP f g;rw[<-F]at a;obtain⟨U,Q,R⟩:=im a;have h:=ed (ff.1 a).1;have e:o6 j d=U:=by simp[o6,R]
     by_cases b:i.iv=2
     ·by_cases N:d=r<;>rcases g with rfl|rfl<;>simp[p,h,Q,AQ,c,b,e,N]
     ·rcases g with rfl|rfl<;>simp[AQ,c,b]
    ·have a:=qu f g;rw[<-T]at a;obtain⟨G,J,K⟩:=im a;have h:=ed (ff.1 a).1;have e:Cc j d=G:=by simp[Cc,K]
     by_cases b:i.iv=2
     ·rcases g with rfl|rfl<;>simp[h,J,AQ,c,b,e]
     ·rcases g with rfl|rfl<;>simp[AQ,c,b]
def xj{f:fq}(ht:f.p 104=some nj)(b:dR)(a:fg)(e c d:Int)(hl:b.fV.length<=1099511627776)(g:a.sm):rl Tryz.prog cx f 104 [b.t,a.t,dw e,dw c,dw d]=some (.bool (jI b a e c d)):=gF ht Gs (b,a,e,c,d) ⟨hl,g⟩
end
end Go.Proofs.YtmaeadedikngoaaGreatDoor
