/- W07 -/
import Derived.Test.YtmoiekepclmgbaaGreatDoorA8
set_option linter.all false
set_option maxRecDepth 100000
set_option maxHeartbeats 0
namespace Go.Proofs.YtmoiekepclmgbaaGreatDoor
noncomputable section
open Go Go.TI Tryz
section
attribute [-simp] List.map_take List.map_drop List.map_append
def Db:iy:=⟨List Int×Int,λa=>[sl (a.1.map (T.int .i64)),G a.2],λa=>a.1.length<=1099511627776,λa=> .bool (decide (a.2∈a.1)),λa c b=>by
 simp at b;rw[jH Y b.1,b.2]⟩
def adQ:Db.Ok prog cx 12:=by
 refine iq [] (jr 131635 [] func12) (λl=>l.1.length+1) (by simp[Db]) ?_;rintro⟨d,g⟩ hl b j;simp[Db]at hl j|-;obtain⟨a,c⟩:=j;simp[f12];refine gu d.length D (λf b h=>h=hE/\dT b 0 (sl (d.map (T.int .i64)))/\dT b 1 (G g)/\dT b 5 (G f)/\(g∈d.drop f↔g∈d)) ?_ ?_ D (by simp[a,c])
 ·rintro f b h i m ⟨rfl,a,c,e,n⟩;have o:=aH i;by_cases k:d[f]=g
  ·simp[a,c,e,i,k];grind
  ·simp[a,c,e,i,k,m];grind
 ·rintro b h ⟨rfl,a,c,e,n⟩;simp[a,e];grind
def M2{c:gG}(ht:c.p 12=some Db)(a:List Int)(b:Int)(hl:a.length<=1099511627776):rl prog cx c 12 [sl (a.map (T.int .i64)),G b]=some (.bool (decide (b∈a))):=iA ht adQ (a,b) hl
def v7:List Int->Int->List Int
 | [],a=>[a]
 |x::b,a=>if x<a then x::v7 b a else if x=a then x::b else a::x::b
def LO:iy:=⟨List Int×Int,λa=>[sl (a.1.map (T.int .i64)),G a.2],λa=>a.1.length<=1099511627776,λa=>sl ((v7 a.1 a.2).map (T.int .i64)),λa c b=>by
 simp at b;rw[jH Y b.1,b.2]⟩
def adK:LO.Ok prog cx 133:=by
 refine iq [] (jr 4295229555 [] func133) (λz=>z.1.length+1) (by simp[LO]) ?_;rintro⟨a,h⟩ hl i y;simp[LO]at hl y|-;obtain⟨b,c⟩:=y;simp[f133];refine gu a.length D (λd i u=>u=hE/\dT i 0 (sl (a.map (T.int .i64)))/\dT i 1 (G h)/\dT i 5 (G d)/\v7 a h=a.take d++v7 (a.drop d) h) ?_ ?_ D (by simp[b,c])
 ·rintro d i u g E ⟨rfl,b,c,e,k⟩;have n:=aH g;by_cases j:a[d]<h
  ·simp[b,c,e,g,j,E];rw[k,n,v7,aq j,aM g,aZ,List.singleton_append]
  ·by_cases o:a[d]=h
   ·simp[b,c,e,g,o];rw[k,n,v7,ao j,aq o,<-n,cS]
   ·simp[b,c,e,g,j,o,bD g];have v:uE (H.cons hE (dS 1 0 [])) 0 (.arr 0 0 0 0 false) 1 (([]:List Int).map (T.int .i64)):= .inr ⟨0,0,0,true,Y,rfl,Y⟩;have⟨F,A,p,w,r⟩:=v.Xj (cx:=cx) (aw _) kx rfl mP rfl Y Y (a.take d) dN;simp[p];have⟨I,B,q,x,s⟩:=w.UA (cx:=cx) (aw _) kx rfl mP rfl Y Y h dN;simp[q,b,c,e,bD g];have⟨J,C,m,l,t⟩:=x.Xj (cx:=cx) (aw _) kx rfl mP rfl Y Y (a.drop d) dN;simp[m,l.iN,l.fzM (f:=T.int .i64) Y];refine⟨t.hp (s.hp (r.hp Y)),?_⟩;rw[k,n,v7,ao j,ao o]
 ·rintro i u ⟨rfl,b,c,e,k⟩;simp[b,e];have v:uE (H.cons hE (dS 1 0 [])) 0 (.arr 0 0 0 0 false) 1 (([]:List Int).map (T.int .i64)):= .inr ⟨0,0,0,true,Y,rfl,Y⟩;have⟨F,A,p,w,r⟩:=v.Xj (cx:=cx) (aw _) kx rfl mP rfl Y Y a dN;simp[p];have⟨I,B,q,x,s⟩:=w.UA (cx:=cx) (aw _) kx rfl mP rfl Y Y h dN;simp[q,b,c,e];have⟨J,C,m,l,t⟩:=x.Xj (cx:=cx) (aw _) kx rfl mP rfl Y Y [] dN;rw[bw]at m;simp[m,l.iN,l.fzM (f:=T.int .i64) Y];refine⟨t.hp (s.hp (r.hp Y)),?_⟩;rw[k];simp[v7]
def aeZ{c:gG}(ht:c.p 133=some LO)(a:List Int)(b:Int)(hl:a.length<=1099511627776):rl prog cx c 133 [sl (a.map (T.int .i64)),G b]=some (sl ((v7 a b).map (T.int .i64))):=iA ht adK (a,b) hl
def ue:iy:=⟨Int×Nat,λa=>[G a.1,G a.2],λa=>True,λa=> .bool (ju a.1 a.2),λa c b=>by simp at b;rw[b.1,show a.2=c.2 by omega]⟩
def ZT:ue.Ok prog cx 32:=by
 refine iq [] (jr 19 [] func32) (λf=>1) (by simp[ue]) ?_;rintro⟨e,g⟩ _ h a;simp[ue]at a|-;obtain⟨b,c⟩:=a;by_cases d:0<=e<;>simp[f32,b,c,d,ju]
def FR{c:gG}(ht:c.p 32=some ue)(a:Int)(b:Nat):rl prog cx c 32 [G a,G b]=some (.bool (ju a b)):=iA ht ZT (a,b) trivial
def BW:iy:=⟨fc×Int×Int,λa=>[a.1.t,G a.2.1,G a.2.2],λa=>True,λa=> .bool (jN a.1 a.2.1 a.2.2),λa c b=>by simp at b;rw[fc.inj b.1,b.2.1,b.2.2]⟩
def VP:BW.Ok prog cx 72:=by
 refine iq [(32,ue)] (jr 606826398900554784047567 [] func72) (λn=>1) (by simp[BW]) ?_;rintro⟨m,a,l⟩ _ p g;simp[BW]at g|-;obtain⟨d,c,e⟩:=g;by_cases i:1<=a/\a<=23
 ·have h:a=1\/a=2\/a=3\/a=4\/a=5\/a=6\/a=7\/a=8\/a=9\/a=10\/a=11\/a=12\/a=13\/a=14\/a=15\/a=16\/a=17\/a=18\/a=19\/a=20\/a=21\/a=22\/a=23:=D;rcases h with rfl|rfl|rfl|rfl|rfl|rfl|rfl|rfl|rfl|rfl|rfl|rfl|rfl|rfl|rfl|rfl|rfl|rfl|rfl|rfl|rfl|rfl|rfl
  case inr.inr.inr.inr.inr.inl|inr.inr.inr.inr.inr.inr.inl|inr.inr.inr.inr.inr.inr.inr.inl|inr.inr.inr.inr.inr.inr.inr.inr.inl|inr.inr.inr.inr.inr.inr.inr.inr.inr.inl|inr.inr.inr.inr.inr.inr.inr.inr.inr.inr.inl=>
   cases hl:ju l m.fj.length with
   |true=>
    obtain⟨q,j,k⟩:=iU hl;simp[f72,d,c,e,FR,hl,j,k,jN,fy (fI.1 hl).1]
   |false=>simp[f72,d,c,e,FR,hl,oS hl,jN]
  all_goals simp [f72,d,c,e,FR,jN]
 ·have b:∀f:Int,1<=f->f<=23->¬a=f:=λf c e o=>i D;simp[f72,d,c,jN,b 1,b 2,b 3,b 4,b 5,b 6,b 7,b 8,b 9,b 10,b 11,b 12,b 13,b 14,b 15,b 16,b 17,b 18,b 19,b 20,b 21,b 22,b 23]
def Ug{d:gG}(ht:d.p 72=some BW)(c:fc)(a b:Int):rl prog cx d 72 [c.t,G a,G b]=some (.bool (jN c a b)):=iA ht VP (c,a,b) trivial
def tq:iy:=⟨fc×gh,λa=>[a.1.t,a.2.t],λa=>a.1.iB.length<=1099511627776,λa=> .bool (mn a.1 a.2),λa c b=>by simp at b;rw[fc.inj b.1,gh.inj b.2]⟩
def SO:tq.Ok prog cx 31:=by
 refine iq [] (jr 2147484735 [] func31) (λo=>o.1.iB.length+1) (by simp[tq]) ?_;rintro⟨a,m⟩ hl d n;simp[tq]at hl n|-;obtain⟨p,q⟩:=n;simp[f31,p,q];refine gu a.iB.length D (λb d k=>k=H.cons (H.cons hE (dS 6 0 [a.t])) (dS 4 0 [m.t])/\dT d 2 (.ptr 0 0 0 0)/\dT d 3 (.ptr 1 0 0 0)/\dT d 5 (G b)/\(a.iB.drop b).all (λe=>ju e.kY a.fj.length)=a.iB.all λe=>ju e.kY a.fj.length) ?_ ?_ D Y
 ·rintro b d k j r ⟨rfl,f,l,g,c⟩;rw[aH j,cB]at c;by_cases h:(a.iB[b]).kY<0
  ·have:ju (a.iB[b]).kY a.fj.length=false:=by simp[ju];omega
   simp[f,g,j,h,mn,<-c,this]
  ·by_cases i:(a.fj.length:Int)<=(a.iB[b]).kY
   ·have:ju (a.iB[b]).kY a.fj.length=false:=by simp[ju];omega
    simp[f,g,j,h,i,mn,<-c,this]
   ·have:ju (a.iB[b]).kY a.fj.length=true:=by simp[ju];omega
    rw[this,bg]at c;simp[f,l,g,j,h,i,r,c]
 ·rintro d k ⟨rfl,f,l,g,c⟩;have s:(a.iB.all λe=>ju e.kY a.fj.length)=true:=by rw[<-c];simp
  by_cases h:m.fj.length=a.fj.length<;>by_cases i:m.done.length=a.fa.length<;>simp[f,l,g,mn,s,h,i,Int.natCast_inj]
def u7{c:gG}(ht:c.p 31=some tq)(a:fc)(b:gh)(hl:a.iB.length<=1099511627776):rl prog cx c 31 [a.t,b.t]=some (.bool (mn a b)):=iA ht SO (a,b) hl
def ud:iy:=⟨gh×Int,λa=>[a.1.t,G a.2],λa=>a.1.dW.length<=1099511627776,λa=>sl ((iW a.2 a.1.dW 0).map (T.int .i64)),λa c b=>by simp at b;rw[gh.inj b.1,b.2]⟩
def PI:ud.Ok prog cx 48:=by
 refine iq [] (jr 1073743991 [] func48) (λy=>y.1.dW.length+1) (by simp[ud]) ?_;rintro⟨j,q⟩ hl e x;simp[ud]at hl x|-;obtain⟨A,h⟩:=x;simp[f48,A];refine gu j.dW.length D (λc e a=>Hp a/\1<=a.size/\a.get 0=some (dS 4 0 [j.t])/\dT e 1 (G q)/\dT e 2 (.ptr 0 0 0 0)/\dT e 6 (G c)/\∃u d,dT e 5 u/\uE a 1 u 1 (d.map (T.int .i64))/\d.length<=c/\d++iW q (j.dW.drop c) c=iW q j.dW 0) ?_ ?_ D ?_
 ·rintro c e a s w ⟨n,o,g,h,k,m,u,d,l,i,B,b⟩;rw[aH s,iW]at b;by_cases p:(j.dW[c]).jf=3
  ·by_cases r:(j.dW[c]).cond=q
   ·rw[aq ⟨p,r⟩]at b;have⟨F,E,z,C,v⟩:=i.UA (cx:=cx) o kx rfl mP rfl Y Y (c:Int) dN;simp[g,h,k,l,m,s,w,p,r,z];refine⟨v.hp n,aQ o v.size,by rw[v.get 0 D];exact g,_,C,dN,by simpa using b⟩
   ·rw[ao (λa=>r a.2)]at b;simp[g,h,k,l,m,s,w,p,r];exact⟨n,o,d,i,D,b⟩
  ·rw[ao (λa=>p a.1)]at b;simp[g,h,k,l,m,s,w,p];exact⟨n,o,d,i,D,b⟩
 ·rintro e a ⟨n,o,g,h,k,m,u,d,l,i,B,b⟩;simp[iW]at b;simp[g,k,l,m,i.iN,i.fzM (f:=T.int .i64) Y,b,n]
 ·simp[h];exact uE.nil _ _ _
def BA{c:gG}(ht:c.p 48=some ud)(a:gh)(b:Int)(hl:a.dW.length<=1099511627776):rl prog cx c 48 [a.t,G b]=some (sl ((iW b a.dW 0).map (T.int .i64))):=iA ht PI (a,b) hl
def RD(a:List Int)(b:Int):(v7 a b).length<=a.length+1:=by
 induction a with
 |nil=>simp[v7]
 |cons d a c=>rw[v7];split<;>(try split)<;>simp<;>omega
def mZ(a:List Int)(b:List Int):List Int:=b.foldl v7 a
def Aa(a b:List Int):(mZ a b).length<=a.length+b.length:=by
 induction b generalizing a with
 |nil=>simp[mZ]
 |cons c b d=>
  have e:=d (v7 a c);have f:=RD a c;show(mZ (v7 a c) b).length<=_;simp;omega
def CN(c b:List Int){a:Nat}(d:a<b.length):mZ c (b.take (a+1))=v7 (mZ c (b.take a)) b[a]:=by
 rw[aM d];unfold mZ;rw[List.foldl_append];rfl
def BP(a b:List Int):List Int:=mZ (mZ [] a) b
def nq:iy:=⟨fc×gh×Int×Int×Int,λa=>[a.1.t,a.2.1.t,G a.2.2.1,G a.2.2.2.1,G a.2.2.2.2],λa=>a.1.iB.length<=1099511627776/\a.2.1.sm,λa=> .bool (je a.1 a.2.1 a.2.2.1 a.2.2.2.1 a.2.2.2.2),λa c b=>by
 simp at b;rw[fc.inj b.1,gh.inj b.2.1,b.2.2.1,b.2.2.2.1,b.2.2.2.2]⟩
def adi:gG:=⟨pt [(32,ue),(72,BW),(31,tq),(12,Db)],ht []⟩
@[simp]def agY:adi.p=pt [(32,ue),(72,BW),(31,tq),(12,Db)]:=id rfl
def JS:nq.Ok prog cx 34:=by
 refine y9 (tb:=adi) jg iT (jr 13215461614728367217751695970865548304603543200842114553566203007 [] func34) (λX=>1) (by simp[nq]) nl9 ?_;rintro⟨n,j,r,x,d⟩ ⟨hl,E⟩ ae A;simp[nq]at hl E A|-;obtain⟨s,t,o,y,p⟩:=A;cases k:mn n j with
 |false=>simp[f34,s,t,u7,hl,k,je]
 |true=>
  cases m:ju r n.dW.length with
  |false=>simp[f34,s,t,o,u7,hl,k,FR,m,je]
  |true=>
   cases f:jN n x d with
   |false=>simp[f34,s,t,o,y,p,u7,hl,k,FR,m,Ug,f,je]
   |true=>
    obtain⟨F,V,H⟩:=mF k;have B:=m;rw[<-H]at B;obtain⟨i,N,O⟩:=iU B;have R:=fy (fI.1 m).1;have hE:je n j r x d=Ao n j r x d:=by simp[je,k,m,f]
    have c:pQ j r=i:=by simp[pQ,O]
    rw[hE];simp[f34,s,t,o,y,p,u7,hl,k,FR,m,Ug,f,R,N];rcases tK f with rfl|rfl|rfl|rfl|rfl|rfl|rfl|rfl|rfl|g|g|g|g
    case inl|inr.inl|inr.inr.inl|inr.inr.inr.inl|inr.inr.inr.inr.inl|inr.inr.inr.inr.inr.inl|inr.inr.inr.inr.inr.inr.inl|inr.inr.inr.inr.inr.inr.inr.inl|inr.inr.inr.inr.inr.inr.inr.inr.inl=>
     by_cases b:i.jf=2<;>simp[Ao,c,b]
    ·have a:=nz f g;rw[<-F]at a;obtain⟨l,q,u⟩:=iU a;have h:=fy (fI.1 a).1;have e:m8 j d=l:=by simp[m8,u]
     have Q:l.fF.length<=1099511627776:=by have:=E.2.2.2 l (ay q);omega
     by_cases b:i.jf=2
     ·by_cases U:l.jl=-1<;>rcases g with rfl|rfl|rfl|rfl|rfl|rfl<;>simp[o,p,h,q,Ao,c,b,e,U,M2,Q]
     ·rcases g with rfl|rfl|rfl|rfl|rfl|rfl<;>simp[Ao,c,b]
    ·have a:=pL f g;obtain⟨Z,v,J⟩:=iU a;have h:=fy (fI.1 a).1;have w:=uu k v;rw[<-F]at w;obtain⟨l,q,u⟩:=iU w;have C:=fy (fI.1 w).1;have e:uw n j d=l:=by simp[uw,J,m8,u]
     by_cases b:i.jf=2
     ·rcases g with rfl|rfl|rfl|rfl<;>simp[o,h,v,C,q,Ao,c,b,e]
     ·by_cases z:i.jf=4
      ·by_cases K:i.cond=d<;>rcases g with rfl|rfl|rfl|rfl<;>simp[p,h,v,C,q,Ao,c,e,z,K]
      ·rcases g with rfl|rfl|rfl|rfl<;>simp[Ao,c,b,z]
    ·have a:=yM f g;rw[<-H]at a;obtain⟨W,S,T⟩:=iU a;have h:=fy (fI.1 a).1;have e:pQ j d=W:=by simp[pQ,T]
     by_cases b:i.jf=2
     ·by_cases P:d=r<;>rcases g with rfl|rfl<;>simp[p,h,S,Ao,c,b,e,P]
     ·rcases g with rfl|rfl<;>simp[Ao,c,b]
    ·have a:=tL f g;rw[<-V]at a;obtain⟨I,L,M⟩:=iU a;have h:=fy (fI.1 a).1;have e:FD j d=I:=by simp[FD,M]
     by_cases b:i.jf=2
     ·rcases g with rfl|rfl<;>simp[h,L,Ao,c,b,e]
     ·rcases g with rfl|rfl<;>simp[Ao,c,b]
def xf{f:gG}(ht:f.p 34=some nq)(b:fc)(a:gh)(e c d:Int)(hl:b.iB.length<=1099511627776)(g:a.sm):rl prog cx f 34 [b.t,a.t,G e,G c,G d]=some (.bool (je b a e c d)):=iA ht JS (b,a,e,c,d) ⟨hl,g⟩
