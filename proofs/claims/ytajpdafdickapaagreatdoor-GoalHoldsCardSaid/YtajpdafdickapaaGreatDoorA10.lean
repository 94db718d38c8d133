/- W07 -/
import Derived.Test.YtajpdafdickapaaGreatDoorA8
set_option linter.all false
set_option maxRecDepth 100000
set_option maxHeartbeats 8000000
namespace Go.Proofs.YtajpdafdickapaaGreatDoor
noncomputable section
open Go Go.TI Tryz
section
attribute [-simp] List.map_take List.map_drop List.map_append
def BZ:fP:=⟨List Int×Int,λa=>[sl (a.1.map (T.int .i64)),Z a.2],λa=>a.1.length<=1099511627776,λa=> .bool (decide (a.2∈a.1)),λa c b=>by
 simp at b;rw[jz dy b.1,b.2]⟩
def ab2:BZ.Ok prog cx 31:=by
 refine fM [] (iQ 131635 [] func31) (λl=>l.1.length+1) (by simp[BZ]) ?_;rintro⟨d,g⟩ hl b j;simp[BZ]at hl j|-;obtain⟨a,c⟩:=j;simp[f31];refine fk d.length J (λf b h=>h=hE/\dF b 0 (sl (d.map (T.int .i64)))/\dF b 1 (Z g)/\dF b 5 (Z f)/\(g∈d.drop f↔g∈d)) ?_ ?_ J (by simp[a,c])
 ·rintro f b h i m ⟨rfl,a,c,e,n⟩;have o:=aH i;by_cases k:d[f]=g
  ·simp[a,c,e,i,k];grind
  ·simp[a,c,e,i,k,m];grind
 ·rintro b h ⟨rfl,a,c,e,n⟩;simp[a,e];grind
def Lx{c:fy}(ht:c.p 31=some BZ)(a:List Int)(b:Int)(hl:a.length<=1099511627776):rl prog cx c 31 [sl (a.map (T.int .i64)),Z b]=some (.bool (decide (b∈a))):=gu ht ab2 (a,b) hl
def uw:List Int->Int->List Int
 | [],a=>[a]
 |x::b,a=>if x<a then x::uw b a else if x=a then x::b else a::x::b
def Kq:fP:=⟨List Int×Int,λa=>[sl (a.1.map (T.int .i64)),Z a.2],λa=>a.1.length<=1099511627776,λa=>sl ((uw a.1 a.2).map (T.int .i64)),λa c b=>by
 simp at b;rw[jz dy b.1,b.2]⟩
def abW:Kq.Ok prog cx 70:=by
 refine fM [] (iQ 4295229555 [] func70) (λz=>z.1.length+1) (by simp[Kq]) ?_;rintro⟨a,h⟩ hl i y;simp[Kq]at hl y|-;obtain⟨b,c⟩:=y;simp[f70];refine fk a.length J (λd i u=>u=hE/\dF i 0 (sl (a.map (T.int .i64)))/\dF i 1 (Z h)/\dF i 5 (Z d)/\uw a h=a.take d++uw (a.drop d) h) ?_ ?_ J (by simp[b,c])
 ·rintro d i u g D ⟨rfl,b,c,e,k⟩;have n:=aH g;by_cases j:a[d]<h
  ·simp[b,c,e,g,j,D];rw[k,n,uw,aq j,aR g,aZ,List.singleton_append]
  ·by_cases o:a[d]=h
   ·simp[b,c,e,g,o];rw[k,n,uw,ao j,aq o,<-n,cT]
   ·simp[b,c,e,g,j,o,bw g];have v:sP (H.cons hE (dE 1 0 [])) 0 (.arr 0 0 0 0 false) 1 (([]:List Int).map (T.int .i64)):= .inr ⟨0,0,0,true,dy,rfl,dy⟩;have⟨E,A,p,w,r⟩:=v.Vi (cx:=cx) (aw _) jQ rfl mz rfl dy dy (a.take d) dz;simp[p];have⟨F,B,q,x,s⟩:=w.SP (cx:=cx) (aw _) jQ rfl mz rfl dy dy h dz;simp[q,b,c,e,bw g];have⟨G,C,m,l,t⟩:=x.Vi (cx:=cx) (aw _) jQ rfl mz rfl dy dy (a.drop d) dz;simp[m,l.ir,l.fzM (f:=T.int .i64) dy];refine⟨t.hp (s.hp (r.hp dy)),?_⟩;rw[k,n,uw,ao j,ao o]
 ·rintro i u ⟨rfl,b,c,e,k⟩;simp[b,e];have v:sP (H.cons hE (dE 1 0 [])) 0 (.arr 0 0 0 0 false) 1 (([]:List Int).map (T.int .i64)):= .inr ⟨0,0,0,true,dy,rfl,dy⟩;have⟨E,A,p,w,r⟩:=v.Vi (cx:=cx) (aw _) jQ rfl mz rfl dy dy a dz;simp[p];have⟨F,B,q,x,s⟩:=w.SP (cx:=cx) (aw _) jQ rfl mz rfl dy dy h dz;simp[q,b,c,e];have⟨G,C,m,l,t⟩:=x.Vi (cx:=cx) (aw _) jQ rfl mz rfl dy dy [] dz;rw[bJ]at m;simp[m,l.ir,l.fzM (f:=T.int .i64) dy];refine⟨t.hp (s.hp (r.hp dy)),?_⟩;rw[k];simp[uw]
def adj{c:fy}(ht:c.p 70=some Kq)(a:List Int)(b:Int)(hl:a.length<=1099511627776):rl prog cx c 70 [sl (a.map (T.int .i64)),Z b]=some (sl ((uw a b).map (T.int .i64))):=gu ht abW (a,b) hl
def s7:fP:=⟨Int×Nat,λa=>[Z a.1,Z a.2],λa=>True,λa=> .bool (iP a.1 a.2),λa c b=>by simp at b;rw[b.1,show a.2=c.2 by omega]⟩
def XW:s7.Ok prog cx 68:=by
 refine fM [] (iQ 19 [] func68) (λf=>1) (by simp[s7]) ?_;rintro⟨e,g⟩ _ h a;simp[s7]at a|-;obtain⟨b,c⟩:=a;by_cases d:0<=e<;>simp[f68,b,c,d,iP]
def Gg{c:fy}(ht:c.p 68=some s7)(a:Int)(b:Nat):rl prog cx c 68 [Z a,Z b]=some (.bool (iP a b)):=gu ht XW (a,b) trivial
def AM:fP:=⟨dZ×Int×Int,λa=>[a.1.t,Z a.2.1,Z a.2.2],λa=>True,λa=> .bool (jN a.1 a.2.1 a.2.2),λa c b=>by simp at b;rw[dZ.inj b.1,b.2.1,b.2.2]⟩
def Ub:AM.Ok prog cx 69:=by
 refine fM [(68,s7)] (iQ 606826398900554784047567 [] func69) (λn=>1) (by simp[AM]) ?_;rintro⟨m,a,l⟩ _ p g;simp[AM]at g|-;obtain⟨d,c,e⟩:=g;by_cases i:1<=a/\a<=23
 ·have h:a=1\/a=2\/a=3\/a=4\/a=5\/a=6\/a=7\/a=8\/a=9\/a=10\/a=11\/a=12\/a=13\/a=14\/a=15\/a=16\/a=17\/a=18\/a=19\/a=20\/a=21\/a=22\/a=23:=J;rcases h with rfl|rfl|rfl|rfl|rfl|rfl|rfl|rfl|rfl|rfl|rfl|rfl|rfl|rfl|rfl|rfl|rfl|rfl|rfl|rfl|rfl|rfl|rfl
  case inr.inr.inr.inr.inr.inl|inr.inr.inr.inr.inr.inr.inl|inr.inr.inr.inr.inr.inr.inr.inl|inr.inr.inr.inr.inr.inr.inr.inr.inl|inr.inr.inr.inr.inr.inr.inr.inr.inr.inl|inr.inr.inr.inr.inr.inr.inr.inr.inr.inr.inl=>
   cases hl:iP l m.ei.length with
   |true=>
    obtain⟨q,j,k⟩:=iD hl;simp[f69,d,c,e,Gg,hl,j,k,jN,em (eQ.1 hl).1]
   |false=>simp[f69,d,c,e,Gg,hl,nQ hl,jN]
  all_goals simp [f69,d,c,e,Gg,jN]
 ·have b:∀f:Int,1<=f->f<=23->¬a=f:=λf c e o=>i J;simp[f69,d,c,jN,b 1,b 2,b 3,b 4,b 5,b 6,b 7,b 8,b 9,b 10,b 11,b 12,b 13,b 14,b 15,b 16,b 17,b 18,b 19,b 20,b 21,b 22,b 23]
def Su{d:fy}(ht:d.p 69=some AM)(c:dZ)(a b:Int):rl prog cx d 69 [c.t,Z a,Z b]=some (.bool (jN c a b)):=gu ht Ub (c,a,b) trivial
def tc:fP:=⟨dZ×fH,λa=>[a.1.t,a.2.t],λa=>a.1.gJ.length<=1099511627776,λa=> .bool (lA a.1 a.2),λa c b=>by simp at b;rw[dZ.inj b.1,fH.inj b.2]⟩
def QX:tc.Ok prog cx 67:=by
 refine fM [] (iQ 2147484735 [] func67) (λo=>o.1.gJ.length+1) (by simp[tc]) ?_;rintro⟨a,m⟩ hl d n;simp[tc]at hl n|-;obtain⟨p,q⟩:=n;simp[f67,p,q];refine fk a.gJ.length J (λb d k=>k=H.cons (H.cons hE (dE 6 0 [a.t])) (dE 4 0 [m.t])/\dF d 2 (.ptr 0 0 0 0)/\dF d 3 (.ptr 1 0 0 0)/\dF d 5 (Z b)/\(a.gJ.drop b).all (λe=>iP e.kJ a.ei.length)=a.gJ.all λe=>iP e.kJ a.ei.length) ?_ ?_ J dy
 ·rintro b d k j r ⟨rfl,f,l,g,c⟩;rw[aH j,bZ]at c;by_cases h:(a.gJ[b]).kJ<0
  ·have:iP (a.gJ[b]).kJ a.ei.length=false:=by simp[iP];omega
   simp[f,g,j,h,lA,<-c,this]
  ·by_cases i:(a.ei.length:Int)<=(a.gJ[b]).kJ
   ·have:iP (a.gJ[b]).kJ a.ei.length=false:=by simp[iP];omega
    simp[f,g,j,h,i,lA,<-c,this]
   ·have:iP (a.gJ[b]).kJ a.ei.length=true:=by simp[iP];omega
    rw[this,aU]at c;simp[f,l,g,j,h,i,r,c]
 ·rintro d k ⟨rfl,f,l,g,c⟩;have s:(a.gJ.all λe=>iP e.kJ a.ei.length)=true:=by rw[<-c];simp
  by_cases h:m.ei.length=a.ei.length<;>by_cases i:m.done.length=a.d8.length<;>simp[f,l,g,lA,s,h,i,Int.natCast_inj]
def vy{c:fy}(ht:c.p 67=some tc)(a:dZ)(b:fH)(hl:a.gJ.length<=1099511627776):rl prog cx c 67 [a.t,b.t]=some (.bool (lA a b)):=gu ht QX (a,b) hl
def r8:fP:=⟨fH×Int,λa=>[a.1.t,Z a.2],λa=>a.1.dH.length<=1099511627776,λa=>sl ((iA a.2 a.1.dH 0).map (T.int .i64)),λa c b=>by simp at b;rw[fH.inj b.1,b.2]⟩
def NQ:r8.Ok prog cx 49:=by
 refine fM [] (iQ 1073743991 [] func49) (λy=>y.1.dH.length+1) (by simp[r8]) ?_;rintro⟨j,q⟩ hl e x;simp[r8]at hl x|-;obtain⟨A,h⟩:=x;simp[f49,A];refine fk j.dH.length J (λc e a=>Hp a/\1<=a.size/\a.get 0=some (dE 4 0 [j.t])/\dF e 1 (Z q)/\dF e 2 (.ptr 0 0 0 0)/\dF e 6 (Z c)/\∃u d,dF e 5 u/\sP a 1 u 1 (d.map (T.int .i64))/\d.length<=c/\d++iA q (j.dH.drop c) c=iA q j.dH 0) ?_ ?_ J ?_
 ·rintro c e a s w ⟨n,o,g,h,k,m,u,d,l,i,B,b⟩;rw[aH s,iA]at b;by_cases p:(j.dH[c]).iE=3
  ·by_cases r:(j.dH[c]).cond=q
   ·rw[aq ⟨p,r⟩]at b;have⟨E,D,z,C,v⟩:=i.SP (cx:=cx) o jQ rfl mz rfl dy dy (c:Int) dz;simp[g,h,k,l,m,s,w,p,r,z];refine⟨v.hp n,aO o v.size,by rw[v.get 0 J];exact g,_,C,dz,by simpa using b⟩
   ·rw[ao (λa=>r a.2)]at b;simp[g,h,k,l,m,s,w,p,r];exact⟨n,o,d,i,J,b⟩
  ·rw[ao (λa=>p a.1)]at b;simp[g,h,k,l,m,s,w,p];exact⟨n,o,d,i,J,b⟩
 ·rintro e a ⟨n,o,g,h,k,m,u,d,l,i,B,b⟩;simp[iA]at b;simp[g,k,l,m,i.ir,i.fzM (f:=T.int .i64) dy,b,n]
 ·simp[h];exact sP.nil _ _ _
def Ar{c:fy}(ht:c.p 49=some r8)(a:fH)(b:Int)(hl:a.dH.length<=1099511627776):rl prog cx c 49 [a.t,Z b]=some (sl ((iA b a.dH 0).map (T.int .i64))):=gu ht NQ (a,b) hl
def PQ(a:List Int)(b:Int):(uw a b).length<=a.length+1:=by
 induction a with
 |nil=>simp[uw]
 |cons d a c=>rw[uw];split<;>(try split)<;>simp<;>omega
def mg(a:List Int)(b:List Int):List Int:=b.foldl uw a
def yw(a b:List Int):(mg a b).length<=a.length+b.length:=by
 induction b generalizing a with
 |nil=>simp[mg]
 |cons c b d=>
  have e:=d (uw a c);have f:=PQ a c;show(mg (uw a c) b).length<=_;simp;omega
def BA(c b:List Int){a:Nat}(d:a<b.length):mg c (b.take (a+1))=uw (mg c (b.take a)) b[a]:=by
 rw[aR d];unfold mg;rw[List.foldl_append];rfl
def AE(a b:List Int):List Int:=mg (mg [] a) b
def mE:fP:=⟨dZ×fH×Int×Int×Int,λa=>[a.1.t,a.2.1.t,Z a.2.2.1,Z a.2.2.2.1,Z a.2.2.2.2],λa=>a.1.gJ.length<=1099511627776/\a.2.1.sm,λa=> .bool (js a.1 a.2.1 a.2.2.1 a.2.2.2.1 a.2.2.2.2),λa c b=>by
 simp at b;rw[dZ.inj b.1,fH.inj b.2.1,b.2.2.1,b.2.2.2.1,b.2.2.2.2]⟩
def abt:fy:=⟨pt [(68,s7),(69,AM),(67,tc),(31,BZ)],ht []⟩
@[simp]def afa:abt.p=pt [(68,s7),(69,AM),(67,tc),(31,BZ)]:=id rfl
def IL:mE.Ok prog cx 47:=by
 refine yW (tb:=abt) iL iB (iQ 13215461614728367217751695970865548304603543200842114553566203007 [] func47) (λW=>1) (by simp[mE]) nl9 ?_;rintro⟨n,j,r,x,d⟩ ⟨hl,D⟩ Y A;simp[mE]at hl D A|-;obtain⟨s,t,o,y,p⟩:=A;cases k:lA n j with
 |false=>simp[f47,s,t,vy,hl,k,js]
 |true=>
  cases m:iP r n.dH.length with
  |false=>simp[f47,s,t,o,vy,hl,k,Gg,m,js]
  |true=>
   cases f:jN n x d with
   |false=>simp[f47,s,t,o,y,p,vy,hl,k,Gg,m,Su,f,js]
   |true=>
    obtain⟨E,U,F⟩:=mT k;have B:=m;rw[<-F]at B;obtain⟨i,M,N⟩:=iD B;have Q:=em (eQ.1 m).1;have hE:js n j r x d=yU n j r x d:=by simp[js,k,m,f]
    have c:nS j r=i:=by simp[nS,N]
    rw[hE];simp[f47,s,t,o,y,p,vy,hl,k,Gg,m,Su,f,Q,M];rcases uC f with rfl|rfl|rfl|rfl|rfl|rfl|rfl|rfl|rfl|g|g|g|g
    case inl|inr.inl|inr.inr.inl|inr.inr.inr.inl|inr.inr.inr.inr.inl|inr.inr.inr.inr.inr.inl|inr.inr.inr.inr.inr.inr.inl|inr.inr.inr.inr.inr.inr.inr.inl|inr.inr.inr.inr.inr.inr.inr.inr.inl=>
     by_cases b:i.iE=2<;>simp[yU,c,b]
    ·have a:=kX f g;rw[<-E]at a;obtain⟨l,q,u⟩:=iD a;have h:=em (eQ.1 a).1;have e:mX j d=l:=by simp[mX,u]
     have P:l.eJ.length<=1099511627776:=by have:=D.2.2.2 l (ay q);omega
     by_cases b:i.iE=2
     ·by_cases T:l.iZ=-1<;>rcases g with rfl|rfl|rfl|rfl|rfl|rfl<;>simp[o,p,h,q,yU,c,b,e,T,Lx,P]
     ·rcases g with rfl|rfl|rfl|rfl|rfl|rfl<;>simp[yU,c,b]
    ·have a:=oK f g;obtain⟨X,v,H⟩:=iD a;have h:=em (eQ.1 a).1;have w:=sx k v;rw[<-E]at w;obtain⟨l,q,u⟩:=iD w;have C:=em (eQ.1 w).1;have e:sI n j d=l:=by simp[sI,H,mX,u]
     by_cases b:i.iE=2
     ·rcases g with rfl|rfl|rfl|rfl<;>simp[o,h,v,C,q,yU,c,b,e]
     ·by_cases z:i.iE=4
      ·by_cases I:i.cond=d<;>rcases g with rfl|rfl|rfl|rfl<;>simp[p,h,v,C,q,yU,c,e,z,I]
      ·rcases g with rfl|rfl|rfl|rfl<;>simp[yU,c,b,z]
    ·have a:=xE f g;rw[<-F]at a;obtain⟨V,R,S⟩:=iD a;have h:=em (eQ.1 a).1;have e:nS j d=V:=by simp[nS,S]
     by_cases b:i.iE=2
     ·by_cases O:d=r<;>rcases g with rfl|rfl<;>simp[p,h,R,yU,c,b,e,O]
     ·rcases g with rfl|rfl<;>simp[yU,c,b]
    ·have a:=rS f g;rw[<-U]at a;obtain⟨G,K,L⟩:=iD a;have h:=em (eQ.1 a).1;have e:D6 j d=G:=by simp[D6,L]
     by_cases b:i.iE=2
     ·rcases g with rfl|rfl<;>simp[h,K,yU,c,b,e]
     ·rcases g with rfl|rfl<;>simp[yU,c,b]
def vC{f:fy}(ht:f.p 47=some mE)(b:dZ)(a:fH)(e c d:Int)(hl:b.gJ.length<=1099511627776)(g:a.sm):rl prog cx f 47 [b.t,a.t,Z e,Z c,Z d]=some (.bool (js b a e c d)):=gu ht IL (b,a,e,c,d) ⟨hl,g⟩
