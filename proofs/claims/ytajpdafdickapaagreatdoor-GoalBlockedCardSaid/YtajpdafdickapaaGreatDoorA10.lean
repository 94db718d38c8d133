/- W07 -/
import Derived.Test.YtajpdafdickapaaGreatDoorA8
set_option linter.all false
set_option maxRecDepth 100000
set_option maxHeartbeats 8000000
namespace Go.Proofs.YtajpdafdickapaaGreatDoor
noncomputable section
open Go Go.TI Tryz
section
attribute [-simp] List.map_take List.map_drop List.map_append
def C6:gG:=⟨List Int×Int,λa=>[sl (a.1.map (T.int .i64)),Z a.2],λa=>a.1.length<=1099511627776,λa=> .bool (decide (a.2∈a.1)),λa c b=>by
 simp at b;rw[jx dy b.1,b.2]⟩
def abg:C6.Ok prog cx 31:=by
 refine fZ [] (iX 131635 [] func31) (λl=>l.1.length+1) (by simp[C6]) ?_;rintro⟨d,g⟩ hl b j;simp[C6]at hl j|-;obtain⟨a,c⟩:=j;simp[f31];refine fD d.length J (λf b h=>h=hE/\dF b 0 (sl (d.map (T.int .i64)))/\dF b 1 (Z g)/\dF b 5 (Z f)/\(g∈d.drop f↔g∈d)) ?_ ?_ J (by simp[a,c])
 ·rintro f b h i m ⟨rfl,a,c,e,n⟩;have o:=aI i;by_cases k:d[f]=g
  ·simp[a,c,e,i,k];grind
  ·simp[a,c,e,i,k,m];grind
 ·rintro b h ⟨rfl,a,c,e,n⟩;simp[a,e];grind
def RC{c:fJ}(ht:c.p 31=some C6)(a:List Int)(b:Int)(hl:a.length<=1099511627776):rl prog cx c 31 [sl (a.map (T.int .i64)),Z b]=some (.bool (decide (b∈a))):=im ht abg (a,b) hl
def rH:List Int->Int->List Int
 | [],a=>[a]
 |x::b,a=>if x<a then x::rH b a else if x=a then x::b else a::x::b
def ET:gG:=⟨List Int×Int,λa=>[sl (a.1.map (T.int .i64)),Z a.2],λa=>a.1.length<=1099511627776,λa=>sl ((rH a.1 a.2).map (T.int .i64)),λa c b=>by
 simp at b;rw[jx dy b.1,b.2]⟩
def aba:ET.Ok prog cx 70:=by
 refine fZ [] (iX 4295229555 [] func70) (λz=>z.1.length+1) (by simp[ET]) ?_;rintro⟨a,h⟩ hl i y;simp[ET]at hl y|-;obtain⟨b,c⟩:=y;simp[f70];refine fD a.length J (λd i u=>u=hE/\dF i 0 (sl (a.map (T.int .i64)))/\dF i 1 (Z h)/\dF i 5 (Z d)/\rH a h=a.take d++rH (a.drop d) h) ?_ ?_ J (by simp[b,c])
 ·rintro d i u g D ⟨rfl,b,c,e,k⟩;have n:=aI g;by_cases j:a[d]<h
  ·simp[b,c,e,g,j,D];rw[k,n,rH,ar j,aQ g,cO,List.singleton_append]
  ·by_cases o:a[d]=h
   ·simp[b,c,e,g,o];rw[k,n,rH,aq j,ar o,<-n,cQ]
   ·simp[b,c,e,g,j,o,bp g];have v:sR (H.cons hE (dE 1 0 [])) 0 (.arr 0 0 0 0 false) 1 (([]:List Int).map (T.int .i64)):= .inr ⟨0,0,0,true,dy,rfl,dy⟩;have⟨E,A,p,w,r⟩:=v.Uq (cx:=cx) (ax _) j9 rfl mY rfl dy dy (a.take d) dz;simp[p];have⟨F,B,q,x,s⟩:=w.RP (cx:=cx) (ax _) j9 rfl mY rfl dy dy h dz;simp[q,b,c,e,bp g];have⟨G,C,m,l,t⟩:=x.Uq (cx:=cx) (ax _) j9 rfl mY rfl dy dy (a.drop d) dz;simp[m,l.iy,l.fzM (f:=T.int .i64) dy];refine⟨t.hp (s.hp (r.hp dy)),?_⟩;rw[k,n,rH,aq j,aq o]
 ·rintro i u ⟨rfl,b,c,e,k⟩;simp[b,e];have v:sR (H.cons hE (dE 1 0 [])) 0 (.arr 0 0 0 0 false) 1 (([]:List Int).map (T.int .i64)):= .inr ⟨0,0,0,true,dy,rfl,dy⟩;have⟨E,A,p,w,r⟩:=v.Uq (cx:=cx) (ax _) j9 rfl mY rfl dy dy a dz;simp[p];have⟨F,B,q,x,s⟩:=w.RP (cx:=cx) (ax _) j9 rfl mY rfl dy dy h dz;simp[q,b,c,e];have⟨G,C,m,l,t⟩:=x.Uq (cx:=cx) (ax _) j9 rfl mY rfl dy dy [] dz;rw[bI]at m;simp[m,l.iy,l.fzM (f:=T.int .i64) dy];refine⟨t.hp (s.hp (r.hp dy)),?_⟩;rw[k];simp[rH]
def X3{c:fJ}(ht:c.p 70=some ET)(a:List Int)(b:Int)(hl:a.length<=1099511627776):rl prog cx c 70 [sl (a.map (T.int .i64)),Z b]=some (sl ((rH a b).map (T.int .i64))):=im ht aba (a,b) hl
def r8:gG:=⟨Int×Nat,λa=>[Z a.1,Z a.2],λa=>True,λa=> .bool (iN a.1 a.2),λa c b=>by simp at b;rw[b.1,show a.2=c.2 by omega]⟩
def WQ:r8.Ok prog cx 68:=by
 refine fZ [] (iX 19 [] func68) (λf=>1) (by simp[r8]) ?_;rintro⟨e,g⟩ _ h a;simp[r8]at a|-;obtain⟨b,c⟩:=a;by_cases d:0<=e<;>simp[f68,b,c,d,iN]
def By{c:fJ}(ht:c.p 68=some r8)(a:Int)(b:Nat):rl prog cx c 68 [Z a,Z b]=some (.bool (iN a b)):=im ht WQ (a,b) trivial
def yh:gG:=⟨dY×Int×Int,λa=>[a.1.t,Z a.2.1,Z a.2.2],λa=>True,λa=> .bool (jE a.1 a.2.1 a.2.2),λa c b=>by simp at b;rw[dY.inj b.1,b.2.1,b.2.2]⟩
def Ta:yh.Ok prog cx 69:=by
 refine fZ [(68,r8)] (iX 606826398900554784047567 [] func69) (λn=>1) (by simp[yh]) ?_;rintro⟨m,a,l⟩ _ p g;simp[yh]at g|-;obtain⟨d,c,e⟩:=g;by_cases i:1<=a/\a<=23
 ·have h:a=1\/a=2\/a=3\/a=4\/a=5\/a=6\/a=7\/a=8\/a=9\/a=10\/a=11\/a=12\/a=13\/a=14\/a=15\/a=16\/a=17\/a=18\/a=19\/a=20\/a=21\/a=22\/a=23:=J;rcases h with rfl|rfl|rfl|rfl|rfl|rfl|rfl|rfl|rfl|rfl|rfl|rfl|rfl|rfl|rfl|rfl|rfl|rfl|rfl|rfl|rfl|rfl|rfl
  case inr.inr.inr.inr.inr.inl|inr.inr.inr.inr.inr.inr.inl|inr.inr.inr.inr.inr.inr.inr.inl|inr.inr.inr.inr.inr.inr.inr.inr.inl|inr.inr.inr.inr.inr.inr.inr.inr.inr.inl|inr.inr.inr.inr.inr.inr.inr.inr.inr.inr.inl=>
   cases hl:iN l m.ei.length with
   |true=>
    obtain⟨q,j,k⟩:=iD hl;simp[f69,d,c,e,By,hl,j,k,jE,eG (eZ.1 hl).1]
   |false=>simp[f69,d,c,e,By,hl,nM hl,jE]
  all_goals simp [f69,d,c,e,By,jE]
 ·have b:∀f:Int,1<=f->f<=23->¬a=f:=λf c e o=>i J;simp[f69,d,c,jE,b 1,b 2,b 3,b 4,b 5,b 6,b 7,b 8,b 9,b 10,b 11,b 12,b 13,b 14,b 15,b 16,b 17,b 18,b 19,b 20,b 21,b 22,b 23]
def KX{d:fJ}(ht:d.p 69=some yh)(c:dY)(a b:Int):rl prog cx d 69 [c.t,Z a,Z b]=some (.bool (jE c a b)):=im ht Ta (c,a,b) trivial
def rG:gG:=⟨dY×fq,λa=>[a.1.t,a.2.t],λa=>a.1.gF.length<=1099511627776,λa=> .bool (kZ a.1 a.2),λa c b=>by simp at b;rw[dY.inj b.1,fq.inj b.2]⟩
def Qj:rG.Ok prog cx 67:=by
 refine fZ [] (iX 2147484735 [] func67) (λo=>o.1.gF.length+1) (by simp[rG]) ?_;rintro⟨a,m⟩ hl d n;simp[rG]at hl n|-;obtain⟨p,q⟩:=n;simp[f67,p,q];refine fD a.gF.length J (λb d k=>k=H.cons (H.cons hE (dE 6 0 [a.t])) (dE 4 0 [m.t])/\dF d 2 (.ptr 0 0 0 0)/\dF d 3 (.ptr 1 0 0 0)/\dF d 5 (Z b)/\(a.gF.drop b).all (λe=>iN e.kv a.ei.length)=a.gF.all λe=>iN e.kv a.ei.length) ?_ ?_ J dy
 ·rintro b d k j r ⟨rfl,f,l,g,c⟩;rw[aI j,cd]at c;by_cases h:(a.gF[b]).kv<0
  ·have:iN (a.gF[b]).kv a.ei.length=false:=by simp[iN];omega
   simp[f,g,j,h,kZ,<-c,this]
  ·by_cases i:(a.ei.length:Int)<=(a.gF[b]).kv
   ·have:iN (a.gF[b]).kv a.ei.length=false:=by simp[iN];omega
    simp[f,g,j,h,i,kZ,<-c,this]
   ·have:iN (a.gF[b]).kv a.ei.length=true:=by simp[iN];omega
    rw[this,aZ]at c;simp[f,l,g,j,h,i,r,c]
 ·rintro d k ⟨rfl,f,l,g,c⟩;have s:(a.gF.all λe=>iN e.kv a.ei.length)=true:=by rw[<-c];simp
  by_cases h:m.ei.length=a.ei.length<;>by_cases i:m.done.length=a.ee.length<;>simp[f,l,g,kZ,s,h,i,Int.natCast_inj]
def tK{c:fJ}(ht:c.p 67=some rG)(a:dY)(b:fq)(hl:a.gF.length<=1099511627776):rl prog cx c 67 [a.t,b.t]=some (.bool (kZ a b)):=im ht Qj (a,b) hl
def r7:gG:=⟨fq×Int,λa=>[a.1.t,Z a.2],λa=>a.1.dH.length<=1099511627776,λa=>sl ((iw a.2 a.1.dH 0).map (T.int .i64)),λa c b=>by simp at b;rw[fq.inj b.1,b.2]⟩
def Nf:r7.Ok prog cx 49:=by
 refine fZ [] (iX 1073743991 [] func49) (λy=>y.1.dH.length+1) (by simp[r7]) ?_;rintro⟨j,q⟩ hl e x;simp[r7]at hl x|-;obtain⟨A,h⟩:=x;simp[f49,A];refine fD j.dH.length J (λc e a=>Hp a/\1<=a.size/\a.get 0=some (dE 4 0 [j.t])/\dF e 1 (Z q)/\dF e 2 (.ptr 0 0 0 0)/\dF e 6 (Z c)/\∃u d,dF e 5 u/\sR a 1 u 1 (d.map (T.int .i64))/\d.length<=c/\d++iw q (j.dH.drop c) c=iw q j.dH 0) ?_ ?_ J ?_
 ·rintro c e a s w ⟨n,o,g,h,k,m,u,d,l,i,B,b⟩;rw[aI s,iw]at b;by_cases p:(j.dH[c]).ij=3
  ·by_cases r:(j.dH[c]).cond=q
   ·rw[ar ⟨p,r⟩]at b;have⟨E,D,z,C,v⟩:=i.RP (cx:=cx) o j9 rfl mY rfl dy dy (c:Int) dz;simp[g,h,k,l,m,s,w,p,r,z];refine⟨v.hp n,aT o v.size,by rw[v.get 0 J];exact g,_,C,dz,by simpa using b⟩
   ·rw[aq (λa=>r a.2)]at b;simp[g,h,k,l,m,s,w,p,r];exact⟨n,o,d,i,J,b⟩
  ·rw[aq (λa=>p a.1)]at b;simp[g,h,k,l,m,s,w,p];exact⟨n,o,d,i,J,b⟩
 ·rintro e a ⟨n,o,g,h,k,m,u,d,l,i,B,b⟩;simp[iw]at b;simp[g,k,l,m,i.iy,i.fzM (f:=T.int .i64) dy,b,n]
 ·simp[h];exact sR.nil _ _ _
def Ae{c:fJ}(ht:c.p 49=some r7)(a:fq)(b:Int)(hl:a.dH.length<=1099511627776):rl prog cx c 49 [a.t,Z b]=some (sl ((iw b a.dH 0).map (T.int .i64))):=im ht Nf (a,b) hl
def Pc(a:List Int)(b:Int):(rH a b).length<=a.length+1:=by
 induction a with
 |nil=>simp[rH]
 |cons d a c=>rw[rH];split<;>(try split)<;>simp<;>omega
def mc(a:List Int)(b:List Int):List Int:=b.foldl rH a
def yl(a b:List Int):(mc a b).length<=a.length+b.length:=by
 induction b generalizing a with
 |nil=>simp[mc]
 |cons c b d=>
  have e:=d (rH a c);have f:=Pc a c;show(mc (rH a c) b).length<=_;simp;omega
def Bg(c b:List Int){a:Nat}(d:a<b.length):mc c (b.take (a+1))=rH (mc c (b.take a)) b[a]:=by
 rw[aQ d];unfold mc;rw[List.foldl_append];rfl
def Aq(a b:List Int):List Int:=mc (mc [] a) b
def mv:gG:=⟨dY×fq×Int×Int×Int,λa=>[a.1.t,a.2.1.t,Z a.2.2.1,Z a.2.2.2.1,Z a.2.2.2.2],λa=>a.1.gF.length<=1099511627776/\a.2.1.sm,λa=> .bool (iG a.1 a.2.1 a.2.2.1 a.2.2.2.1 a.2.2.2.2),λa c b=>by
 simp at b;rw[dY.inj b.1,fq.inj b.2.1,b.2.2.1,b.2.2.2.1,b.2.2.2.2]⟩
def aaH:fJ:=⟨pt [(68,r8),(69,yh),(67,rG),(31,C6)],ht []⟩
@[simp]def aek:aaH.p=pt [(68,r8),(69,yh),(67,rG),(31,C6)]:=id rfl
def In:mv.Ok prog cx 47:=by
 refine A6 (tb:=aaH) iR iE (iX 13215461614728367217751695970865548304603543200842114553566203007 [] func47) (λW=>1) (by simp[mv]) nl9 ?_;rintro⟨n,j,r,x,d⟩ ⟨hl,D⟩ Y A;simp[mv]at hl D A|-;obtain⟨s,t,o,y,p⟩:=A;cases k:kZ n j with
 |false=>simp[f47,s,t,tK,hl,k,iG]
 |true=>
  cases m:iN r n.dH.length with
  |false=>simp[f47,s,t,o,tK,hl,k,By,m,iG]
  |true=>
   cases f:jE n x d with
   |false=>simp[f47,s,t,o,y,p,tK,hl,k,By,m,KX,f,iG]
   |true=>
    obtain⟨E,U,F⟩:=kr k;have B:=m;rw[<-F]at B;obtain⟨i,M,N⟩:=iD B;have Q:=eG (eZ.1 m).1;have hE:iG n j r x d=vJ n j r x d:=by simp[iG,k,m,f]
    have c:jS j r=i:=by simp[jS,N]
    rw[hE];simp[f47,s,t,o,y,p,tK,hl,k,By,m,KX,f,Q,M];rcases pO f with rfl|rfl|rfl|rfl|rfl|rfl|rfl|rfl|rfl|g|g|g|g
    case inl|inr.inl|inr.inr.inl|inr.inr.inr.inl|inr.inr.inr.inr.inl|inr.inr.inr.inr.inr.inl|inr.inr.inr.inr.inr.inr.inl|inr.inr.inr.inr.inr.inr.inr.inl|inr.inr.inr.inr.inr.inr.inr.inr.inl=>
     by_cases b:i.ij=2<;>simp[vJ,c,b]
    ·have a:=jY f g;rw[<-E]at a;obtain⟨l,q,u⟩:=iD a;have h:=eG (eZ.1 a).1;have e:j1 j d=l:=by simp[j1,u]
     have P:l.ew.length<=1099511627776:=by have:=D.2.2.2 l (ay q);omega
     by_cases b:i.ij=2
     ·by_cases T:l.iB=-1<;>rcases g with rfl|rfl|rfl|rfl|rfl|rfl<;>simp[o,p,h,q,vJ,c,b,e,T,RC,P]
     ·rcases g with rfl|rfl|rfl|rfl|rfl|rfl<;>simp[vJ,c,b]
    ·have a:=my f g;obtain⟨X,v,H⟩:=iD a;have h:=eG (eZ.1 a).1;have w:=pV k v;rw[<-E]at w;obtain⟨l,q,u⟩:=iD w;have C:=eG (eZ.1 w).1;have e:pj n j d=l:=by simp[pj,H,j1,u]
     by_cases b:i.ij=2
     ·rcases g with rfl|rfl|rfl|rfl<;>simp[o,h,v,C,q,vJ,c,b,e]
     ·by_cases z:i.ij=4
      ·by_cases I:i.cond=d<;>rcases g with rfl|rfl|rfl|rfl<;>simp[p,h,v,C,q,vJ,c,e,z,I]
      ·rcases g with rfl|rfl|rfl|rfl<;>simp[vJ,c,b,z]
    ·have a:=pN f g;rw[<-F]at a;obtain⟨V,R,S⟩:=iD a;have h:=eG (eZ.1 a).1;have e:jS j d=V:=by simp[jS,S]
     by_cases b:i.ij=2
     ·by_cases O:d=r<;>rcases g with rfl|rfl<;>simp[p,h,R,vJ,c,b,e,O]
     ·rcases g with rfl|rfl<;>simp[vJ,c,b]
    ·have a:=rO f g;rw[<-U]at a;obtain⟨G,K,L⟩:=iD a;have h:=eG (eZ.1 a).1;have e:Ek j d=G:=by simp[Ek,L]
     by_cases b:i.ij=2
     ·rcases g with rfl|rfl<;>simp[h,K,vJ,c,b,e]
     ·rcases g with rfl|rfl<;>simp[vJ,c,b]
def vh{f:fJ}(ht:f.p 47=some mv)(b:dY)(a:fq)(e c d:Int)(hl:b.gF.length<=1099511627776)(g:a.sm):rl prog cx f 47 [b.t,a.t,Z e,Z c,Z d]=some (.bool (iG b a e c d)):=im ht In (b,a,e,c,d) ⟨hl,g⟩
