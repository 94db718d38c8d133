/- Texts W08 to W08c. -/
import Derived.Test.YtmaeadedikngoaaGreatDoorA14
set_option linter.all false
set_option maxRecDepth 100000
set_option maxHeartbeats 8000000
namespace Go.Proofs.YtmaeadedikngoaaGreatDoor
noncomputable section
open Go Go.TI
attribute [-simp] List.map_take List.map_drop List.map_append
def pX:gu:=⟨Int×Nat,λa=>[dy a.1,dy a.2],λa=>True,λa=> .bool (iT a.1 a.2),λa c b=>by simp at b;rw[b.1,show a.2=c.2 by omega]⟩
def Ux:pX.Ok Tryz.prog cx 151:=by
 refine gX (tb:=⟨pt [],ht []⟩) ew ej (iQ 19 [] Tryz.func151) (λf=>1) (by simp[pX]) (by simp[pX,Tryz.f151]) ?_;rintro⟨e,g⟩ _ h a;simp[pX]at a|-;obtain⟨b,c⟩:=a;by_cases d:0<=e<;>simp[Tryz.f151,b,c,d,iT]
def DY{c:fy}(ht:c.p 151=some pX)(a:Int)(b:Nat):rl Tryz.prog cx c 151 [dy a,dy b]=some (.bool (iT a b)):=gU ht Ux (a,b) trivial
def wY:gu:=⟨dU×Int×Int,λa=>[a.1.t,dy a.2.1,dy a.2.2],λa=>True,λa=> .bool (jD a.1 a.2.1 a.2.2),λa c b=>by simp at b;rw[dU.inj b.1,b.2.1,b.2.2]⟩
def QO:wY.Ok Tryz.prog cx 152:=by
 refine gX (tb:=⟨pt [(151,pX)],ht []⟩) ew ej (iQ 606826398900554784047567 [] Tryz.func152) (λn=>1) (by simp[wY]) (by simp[wY,Tryz.f152]) ?_;rintro⟨m,a,l⟩ _ p g;simp[wY]at g|-;obtain⟨d,c,e⟩:=g;by_cases i:1<=a/\a<=23
 ·have h:a=1\/a=2\/a=3\/a=4\/a=5\/a=6\/a=7\/a=8\/a=9\/a=10\/a=11\/a=12\/a=13\/a=14\/a=15\/a=16\/a=17\/a=18\/a=19\/a=20\/a=21\/a=22\/a=23:=dq;rcases h with rfl|rfl|rfl|rfl|rfl|rfl|rfl|rfl|rfl|rfl|rfl|rfl|rfl|rfl|rfl|rfl|rfl|rfl|rfl|rfl|rfl|rfl|rfl
  case inr.inr.inr.inr.inr.inl|inr.inr.inr.inr.inr.inr.inl|inr.inr.inr.inr.inr.inr.inr.inl|inr.inr.inr.inr.inr.inr.inr.inr.inl|inr.inr.inr.inr.inr.inr.inr.inr.inr.inl|inr.inr.inr.inr.inr.inr.inr.inr.inr.inr.inl=>
   cases hl:iT l m.dY.length with
   |true=>
    obtain⟨q,j,k⟩:=iu hl;simp[Tryz.f152,d,c,e,DY,hl,j,k,jD,ei (fj.1 hl).1]
   |false=>simp[Tryz.f152,d,c,e,DY,hl,qq hl,jD]
  all_goals simp [Tryz.f152,d,c,e,DY,jD]
 ·have b:∀f:Int,1<=f->f<=23->¬a=f:=λf c e o=>i dq;simp[Tryz.f152,d,c,jD,b 1,b 2,b 3,b 4,b 5,b 6,b 7,b 8,b 9,b 10,b 11,b 12,b 13,b 14,b 15,b 16,b 17,b 18,b 19,b 20,b 21,b 22,b 23]
def Pn{d:fy}(ht:d.p 152=some wY)(c:dU)(a b:Int):rl Tryz.prog cx d 152 [c.t,dy a,dy b]=some (.bool (jD c a b)):=gU ht QO (c,a,b) trivial
def qh:gu:=⟨dU×fk,λa=>[a.1.t,a.2.t],λa=>a.1.fZ.length<=1099511627776,λa=> .bool (mr a.1 a.2),λa c b=>by simp at b;rw[dU.inj b.1,fk.inj b.2]⟩
def NW:qh.Ok Tryz.prog cx 111:=by
 refine gX (tb:=⟨pt [],ht []⟩) ew ej (iQ 2147484735 [] Tryz.func111) (λo=>o.1.fZ.length+1) (by simp[qh]) (by simp[qh,Tryz.f111]) ?_;rintro⟨a,m⟩ hl d n;simp[qh]at hl n|-;obtain⟨p,q⟩:=n;simp[Tryz.f111,p,q];refine fh a.fZ.length dq (λb d k=>k=H.cons (H.cons hE (dA 6 0 [a.t])) (dA 4 0 [m.t])/\dB d 2 (.ptr 0 0 0 0)/\dB d 3 (.ptr 1 0 0 0)/\dB d 5 (dy b)/\(a.fZ.drop b).all (λe=>iT e.kl a.dY.length)=a.fZ.all λe=>iT e.kl a.dY.length) ?_ ?_ dq dt
 ·rintro b d k j r ⟨rfl,f,l,g,c⟩;rw[aI j,cA]at c;by_cases h:(a.fZ[b]).kl<0
  ·have:iT (a.fZ[b]).kl a.dY.length=false:=by simp[iT];omega
   simp[f,g,j,h,mr,<-c,this]
  ·by_cases i:(a.dY.length:Int)<=(a.fZ[b]).kl
   ·have:iT (a.fZ[b]).kl a.dY.length=false:=by simp[iT];omega
    simp[f,g,j,h,i,mr,<-c,this]
   ·have:iT (a.fZ[b]).kl a.dY.length=true:=by simp[iT];omega
    rw[this,bK]at c;simp[f,l,g,j,h,i,r,c]
 ·rintro d k ⟨rfl,f,l,g,c⟩;have s:(a.fZ.all λe=>iT e.kl a.dY.length)=true:=by rw[<-c];simp
  by_cases h:m.dY.length=a.dY.length<;>by_cases i:m.done.length=a.dX.length<;>simp[f,l,g,mr,s,h,i,Int.natCast_inj]
def ut{c:fy}(ht:c.p 111=some qh)(a:dU)(b:fk)(hl:a.fZ.length<=1099511627776):rl Tryz.prog cx c 111 [a.t,b.t]=some (.bool (mr a b)):=gU ht NW (a,b) hl
def sS:gu:=⟨fk×Int,λa=>[a.1.t,dy a.2],λa=>a.1.dE.length<=1099511627776,λa=>sl ((hU a.2 a.1.dE 0).map (T.int .i64)),λa c b=>by simp at b;rw[fk.inj b.1,b.2]⟩
def Lf:sS.Ok Tryz.prog cx 153:=by
 refine gX (tb:=⟨pt [],ht []⟩) ew ej (iQ 1073743991 [] Tryz.func153) (λy=>y.1.dE.length+1) (by simp[sS]) (by simp[sS,Tryz.f153]) ?_;rintro⟨j,q⟩ hl e x;simp[sS]at hl x|-;obtain⟨A,h⟩:=x;simp[Tryz.f153,A];refine fh j.dE.length dq (λc e a=>Hp a/\1<=a.size/\a.get 0=some (dA 4 0 [j.t])/\dB e 1 (dy q)/\dB e 2 (.ptr 0 0 0 0)/\dB e 6 (dy c)/\∃u d,dB e 5 u/\rC a 1 u 1 (d.map (T.int .i64))/\d.length<=c/\d++hU q (j.dE.drop c) c=hU q j.dE 0) ?_ ?_ dq ?_
 ·rintro c e a s w ⟨n,o,g,h,k,m,u,d,l,i,B,b⟩;rw[aI s,hU]at b;by_cases p:(j.dE[c]).iA=3
  ·by_cases r:(j.dE[c]).cond=q
   ·rw[aq ⟨p,r⟩]at b;obtain⟨E,D,z,C,v⟩:=i.PD (cx:=cx) o kK rfl oq rfl dt dt (c:Int) du;simp[g,h,k,l,m,s,w,p,r,z];refine⟨v.hp n,aS o v.size,by rw[v.get 0 dq];exact g,_,C,du,by simpa using b⟩
   ·rw[ao (λa=>r a.2)]at b;simp[g,h,k,l,m,s,w,p,r];exact⟨n,o,d,i,dq,b⟩
  ·rw[ao (λa=>p a.1)]at b;simp[g,h,k,l,m,s,w,p];exact⟨n,o,d,i,dq,b⟩
 ·rintro e a ⟨n,o,g,h,k,m,u,d,l,i,B,b⟩;simp[hU]at b;simp[g,k,l,m,i.gJ,i.fzM (f:=T.int .i64) dt,b,n]
 ·simp[h];exact rC.nil _ _ _
def Ct{c:fy}(ht:c.p 153=some sS)(a:fk)(b:Int)(hl:a.dE.length<=1099511627776):rl Tryz.prog cx c 153 [a.t,dy b]=some (sl ((hU b a.dE 0).map (T.int .i64))):=gU ht Lf (a,b) hl
def M3(a:List Int)(b:Int):(tj a b).length<=a.length+1:=by
 induction a with
 |nil=>simp[tj]
 |cons d a c=>rw[tj];split<;>(try split)<;>simp<;>omega
def ls(a:List Int)(b:List Int):List Int:=b.foldl tj a
def xa(a b:List Int):(ls a b).length<=a.length+b.length:=by
 induction b generalizing a with
 |nil=>simp[ls]
 |cons c b d=>
  have e:=d (tj a c);have f:=M3 a c;show(ls (tj a c) b).length<=_;simp;omega
def Aa(c b:List Int){a:Nat}(d:a<b.length):ls c (b.take (a+1))=tj (ls c (b.take a)) b[a]:=by
 rw[aU d];unfold ls;rw[List.foldl_append];rfl
def yL(a b:List Int):List Int:=ls (ls [] a) b
def nC:gu:=⟨dU×fk×Int×Int×Int,λa=>[a.1.t,a.2.1.t,dy a.2.2.1,dy a.2.2.2.1,dy a.2.2.2.2],λa=>a.1.fZ.length<=1099511627776/\a.2.1.sm,λa=> .bool (jM a.1 a.2.1 a.2.2.1 a.2.2.2.1 a.2.2.2.2),λa c b=>by
 simp at b;rw[dU.inj b.1,fk.inj b.2.1,b.2.2.1,b.2.2.2.1,b.2.2.2.2]⟩
def Yl:fy:=⟨pt [(151,pX),(152,wY),(111,qh),(56,Bq)],ht []⟩
@[simp] theorem abU:Yl.p=pt [(151,pX),(152,wY),(111,qh),(56,Bq)]:=id rfl
def Gm:nC.Ok Tryz.prog cx 104:=by
 refine gX (tb:=Yl) ew ej (iQ 13215461614728367217751695970865548304603543200842114553566203007 [] Tryz.func104) (λV=>1) (by simp[nC]) (by simp[nC,Tryz.f104]) ?_;rintro⟨n,j,r,x,d⟩ ⟨hl,D⟩ X A;simp[nC]at hl D A|-;obtain⟨s,t,o,y,p⟩:=A;cases k:mr n j with
 |false=>simp[Tryz.f104,s,t,ut,hl,k,jM]
 |true=>
  cases m:iT r n.dE.length with
  |false=>simp[Tryz.f104,s,t,o,ut,hl,k,DY,m,jM]
  |true=>
   cases f:jD n x d with
   |false=>simp[Tryz.f104,s,t,o,y,p,ut,hl,k,DY,m,Pn,f,jM]
   |true=>
    obtain⟨E,T,F⟩:=nO k;have B:=m;rw[<-F]at B;obtain⟨i,L,M⟩:=iu B;have P:=ei (fj.1 m).1;have hE:jM n j r x d=AY n j r x d:=by simp[jM,k,m,f]
    have c:pf j r=i:=by simp[pf,M]
    rw[hE];simp[Tryz.f104,s,t,o,y,p,ut,hl,k,DY,m,Pn,f,P,L];rcases tv f with rfl|rfl|rfl|rfl|rfl|rfl|rfl|rfl|rfl|g|g|g|g
    case inl|inr.inl|inr.inr.inl|inr.inr.inr.inl|inr.inr.inr.inr.inl|inr.inr.inr.inr.inr.inl|inr.inr.inr.inr.inr.inr.inl|inr.inr.inr.inr.inr.inr.inr.inl|inr.inr.inr.inr.inr.inr.inr.inr.inl=>
     by_cases b:i.iA=2<;>simp[AY,c,b]
    ·have a:=kA f g;rw[<-E]at a;obtain⟨l,q,u⟩:=iu a;have h:=ei (fj.1 a).1;have e:ml j d=l:=by simp[ml,u]
     have O:l.eg.length<=1099511627776:=by have:=D.2.2.2 l (ax q);omega
     by_cases b:i.iA=2
     ·by_cases S:l.iK=-1<;>rcases g with rfl|rfl|rfl|rfl|rfl|rfl<;>simp[o,p,h,q,AY,c,b,e,S,Ps,O]
     ·rcases g with rfl|rfl|rfl|rfl|rfl|rfl<;>simp[AY,c,b]
    ·have a:=nG f g;obtain⟨W,v,H⟩:=iu a;have h:=ei (fj.1 a).1;have w:=rf k v;rw[<-E]at w;obtain⟨l,q,u⟩:=iu w;have C:=ei (fj.1 w).1;have e:rh n j d=l:=by simp[rh,H,ml,u]
     by_cases b:i.iA=2
     ·rcases g with rfl|rfl|rfl|rfl<;>simp[o,h,v,C,q,AY,c,b,e]
     ·by_cases z:i.iA=4
      ·by_cases I:i.cond=d<;>rcases g with rfl|rfl|rfl|rfl<;>simp[p,h,v,C,q,AY,c,e,z,I]
      ·rcases g with rfl|rfl|rfl|rfl<;>simp[AY,c,b,z]
    ·have a:=v7 f g;rw[<-F]at a;obtain⟨U,Q,R⟩:=iu a;have h:=ei (fj.1 a).1;have e:pf j d=U:=by simp[pf,R]
     by_cases b:i.iA=2
     ·by_cases N:d=r<;>rcases g with rfl|rfl<;>simp[p,h,Q,AY,c,b,e,N]
     ·rcases g with rfl|rfl<;>simp[AY,c,b]
    ·have a:=qz f g;rw[<-T]at a;obtain⟨G,J,K⟩:=iu a;have h:=ei (fj.1 a).1;have e:Cm j d=G:=by simp[Cm,K]
     by_cases b:i.iA=2
     ·rcases g with rfl|rfl<;>simp[h,J,AY,c,b,e]
     ·rcases g with rfl|rfl<;>simp[AY,c,b]
def xv{f:fy}(ht:f.p 104=some nC)(b:dU)(a:fk)(e c d:Int)(hl:b.fZ.length<=1099511627776)(g:a.sm):rl Tryz.prog cx f 104 [b.t,a.t,dy e,dy c,dy d]=some (.bool (jM b a e c d)):=gU ht Gm (b,a,e,c,d) ⟨hl,g⟩
end
end Go.Proofs.YtmaeadedikngoaaGreatDoor
