/- W07 -/
import Derived.Test.YtalknpnbaceflaaGreatDoorA8
set_option linter.all false
set_option maxRecDepth 100000
set_option maxHeartbeats 0
namespace Go.Proofs.YtalknpnbaceflaaGreatDoor
noncomputable section
open Go Go.TI Tryz
section
attribute [-simp] List.map_take List.map_drop List.map_append
def D2:iK:=⟨List Int×Int,λa=>[sl (a.1.map (T.int .i64)),C a.2],λa=>a.1.length<=1099511627776,λa=> .ez (decide (a.2∈a.1)),λa c b=>by
 simp at b;rw[jV G b.1,b.2]⟩
def aez:D2.Ok prog cx 12:=by
 refine iF [] (jF 131635 [] func12) (λl=>l.1.length+1) (by simp[D2]) ?_;rintro⟨d,g⟩ hl b j;simp[D2]at hl j|-;obtain⟨a,c⟩:=j;simp[f12];refine ik d.length B (λf b h=>h=hE/\Y b 0 (sl (d.map (T.int .i64)))/\Y b 1 (C g)/\Y b 5 (C f)/\(g∈d.drop f↔g∈d)) ?_ ?_ B (by simp[a,c])
 ·rintro f b h i m ⟨rfl,a,c,e,n⟩;have o:=aJ i;by_cases k:d[f]=g
  ·simp[a,c,e,i,k];grind
  ·simp[a,c,e,i,k,m];grind
 ·rintro b h ⟨rfl,a,c,e,n⟩;simp[a,e];grind
def RB{c:io}(ht:c.p 12=some D2)(a:List Int)(b:Int)(hl:a.length<=1099511627776):rl prog cx c 12 [sl (a.map (T.int .i64)),C b]=some (.ez (decide (b∈a))):=iN ht aez (a,b) hl
def uk:List Int->Int->List Int
 | [],a=>[a]
 |x::b,a=>if x<a then x::uk b a else if x=a then x::b else a::x::b
def Hh:iK:=⟨List Int×Int,λa=>[sl (a.1.map (T.int .i64)),C a.2],λa=>a.1.length<=1099511627776,λa=>sl ((uk a.1 a.2).map (T.int .i64)),λa c b=>by
 simp at b;rw[jV G b.1,b.2]⟩
def aet:Hh.Ok prog cx 39:=by
 refine iF [] (jF 4295229555 [] func39) (λz=>z.1.length+1) (by simp[Hh]) ?_;rintro⟨a,h⟩ hl i y;simp[Hh]at hl y|-;obtain⟨b,c⟩:=y;simp[f39];refine ik a.length B (λd i u=>u=hE/\Y i 0 (sl (a.map (T.int .i64)))/\Y i 1 (C h)/\Y i 5 (C d)/\uk a h=a.take d++uk (a.drop d) h) ?_ ?_ B (by simp[b,c])
 ·rintro d i u g F ⟨rfl,b,c,e,k⟩;have n:=aJ g;by_cases j:a[d]<h
  ·simp[b,c,e,g,j,F];rw[k,n,uk,au j,aP g,bj,List.singleton_append]
  ·by_cases o:a[d]=h
   ·simp[b,c,e,g,o];rw[k,n,uk,Z j,au o,<-n,df]
   ·simp[b,c,e,g,j,o,bI g];have v:u7 (H.cons hE (X 1 0 [])) 0 (.arr 0 0 0 0 false) 1 (([]:List Int).map (T.int .i64)):= .inr ⟨0,0,0,true,G,rfl,G⟩;have⟨I,A,p,w,r⟩:=v.X9 (cx:=cx) (ay _) kO rfl nP rfl G G (a.take d) dR;simp[p];have⟨J,D,q,x,s⟩:=w.Vp (cx:=cx) (ay _) kO rfl nP rfl G G h dR;simp[q,b,c,e,bI g];have⟨K,E,m,l,t⟩:=x.X9 (cx:=cx) (ay _) kO rfl nP rfl G G (a.drop d) dR;simp[m,l.jc,l.fzM (f:=T.int .i64) G];refine⟨t.hp (s.hp (r.hp G)),?_⟩;rw[k,n,uk,Z j,Z o]
 ·rintro i u ⟨rfl,b,c,e,k⟩;simp[b,e];have v:u7 (H.cons hE (X 1 0 [])) 0 (.arr 0 0 0 0 false) 1 (([]:List Int).map (T.int .i64)):= .inr ⟨0,0,0,true,G,rfl,G⟩;have⟨I,A,p,w,r⟩:=v.X9 (cx:=cx) (ay _) kO rfl nP rfl G G a dR;simp[p];have⟨J,D,q,x,s⟩:=w.Vp (cx:=cx) (ay _) kO rfl nP rfl G G h dR;simp[q,b,c,e];have⟨K,E,m,l,t⟩:=x.X9 (cx:=cx) (ay _) kO rfl nP rfl G G [] dR;rw[bF]at m;simp[m,l.jc,l.fzM (f:=T.int .i64) G];refine⟨t.hp (s.hp (r.hp G)),?_⟩;rw[k];simp[uk]
def abC{c:io}(ht:c.p 39=some Hh)(a:List Int)(b:Int)(hl:a.length<=1099511627776):rl prog cx c 39 [sl (a.map (T.int .i64)),C b]=some (sl ((uk a b).map (T.int .i64))):=iN ht aet (a,b) hl
def uF:iK:=⟨Int×Nat,λa=>[C a.1,C a.2],λa=>True,λa=> .ez (ju a.1 a.2),λa c b=>by simp at b;rw[b.1,show a.2=c.2 by omega]⟩
def aaB:uF.Ok prog cx 37:=by
 refine iF [] (jF 19 [] func37) (λf=>1) (by simp[uF]) ?_;rintro⟨e,g⟩ _ h a;simp[uF]at a|-;obtain⟨b,c⟩:=a;by_cases d:0<=e<;>simp[f37,b,c,d,ju]
def DS{c:io}(ht:c.p 37=some uF)(a:Int)(b:Nat):rl prog cx c 37 [C a,C b]=some (.ez (ju a b)):=iN ht aaB (a,b) trivial
def AG:iK:=⟨fy×Int×Int,λa=>[a.1.t,C a.2.1,C a.2.2],λa=>True,λa=> .ez (j8 a.1 a.2.1 a.2.2),λa c b=>by simp at b;rw[fy.inj b.1,b.2.1,b.2.2]⟩
def WC:AG.Ok prog cx 38:=by
 refine iF [(37,uF)] (jF 606826398900554784047567 [] func38) (λn=>1) (by simp[AG]) ?_;rintro⟨m,a,l⟩ _ p g;simp[AG]at g|-;obtain⟨d,c,e⟩:=g;by_cases i:1<=a/\a<=23
 ·have h:a=1\/a=2\/a=3\/a=4\/a=5\/a=6\/a=7\/a=8\/a=9\/a=10\/a=11\/a=12\/a=13\/a=14\/a=15\/a=16\/a=17\/a=18\/a=19\/a=20\/a=21\/a=22\/a=23:=B;rcases h with rfl|rfl|rfl|rfl|rfl|rfl|rfl|rfl|rfl|rfl|rfl|rfl|rfl|rfl|rfl|rfl|rfl|rfl|rfl|rfl|rfl|rfl|rfl
  case inr.inr.inr.inr.inr.inl|inr.inr.inr.inr.inr.inr.inl|inr.inr.inr.inr.inr.inr.inr.inl|inr.inr.inr.inr.inr.inr.inr.inr.inl|inr.inr.inr.inr.inr.inr.inr.inr.inr.inl|inr.inr.inr.inr.inr.inr.inr.inr.inr.inr.inl=>
   cases hl:ju l m.fI.length with
   |true=>
    obtain⟨q,j,k⟩:=jn hl;simp[f38,d,c,e,DS,hl,j,k,j8,fU (fQ.1 hl).1]
   |false=>simp[f38,d,c,e,DS,hl,pF hl,j8]
  all_goals simp [f38,d,c,e,DS,j8]
 ·have b:∀f:Int,1<=f->f<=23->¬a=f:=λf c e o=>i B;simp[f38,d,c,j8,b 1,b 2,b 3,b 4,b 5,b 6,b 7,b 8,b 9,b 10,b 11,b 12,b 13,b 14,b 15,b 16,b 17,b 18,b 19,b 20,b 21,b 22,b 23]
def N4{d:io}(ht:d.p 38=some AG)(c:fy)(a b:Int):rl prog cx d 38 [c.t,C a,C b]=some (.ez (j8 c a b)):=iN ht WC (c,a,b) trivial
def uj:iK:=⟨fy×gY,λa=>[a.1.t,a.2.t],λa=>a.1.iL.length<=1099511627776,λa=> .ez (mK a.1 a.2),λa c b=>by simp at b;rw[fy.inj b.1,gY.inj b.2]⟩
def TY:uj.Ok prog cx 36:=by
 refine iF [] (jF 2147484735 [] func36) (λo=>o.1.iL.length+1) (by simp[uj]) ?_;rintro⟨a,m⟩ hl d n;simp[uj]at hl n|-;obtain⟨p,q⟩:=n;simp[f36,p,q];refine ik a.iL.length B (λb d k=>k=H.cons (H.cons hE (X 6 0 [a.t])) (X 4 0 [m.t])/\Y d 2 (.fc 0 0 0 0)/\Y d 3 (.fc 1 0 0 0)/\Y d 5 (C b)/\(a.iL.drop b).all (λe=>ju e.kU a.fI.length)=a.iL.all λe=>ju e.kU a.fI.length) ?_ ?_ B G
 ·rintro b d k j r ⟨rfl,f,l,g,c⟩;rw[aJ j,cA]at c;by_cases h:(a.iL[b]).kU<0
  ·have:ju (a.iL[b]).kU a.fI.length=false:=by simp[ju];omega
   simp[f,g,j,h,mK,<-c,this]
  ·by_cases i:(a.fI.length:Int)<=(a.iL[b]).kU
   ·have:ju (a.iL[b]).kU a.fI.length=false:=by simp[ju];omega
    simp[f,g,j,h,i,mK,<-c,this]
   ·have:ju (a.iL[b]).kU a.fI.length=true:=by simp[ju];omega
    rw[this,bm]at c;simp[f,l,g,j,h,i,r,c]
 ·rintro d k ⟨rfl,f,l,g,c⟩;have s:(a.iL.all λe=>ju e.kU a.fI.length)=true:=by rw[<-c];simp
  by_cases h:m.fI.length=a.fI.length<;>by_cases i:m.done.length=a.fH.length<;>simp[f,l,g,mK,s,h,i,Int.natCast_inj]
def vS{c:io}(ht:c.p 36=some uj)(a:fy)(b:gY)(hl:a.iL.length<=1099511627776):rl prog cx c 36 [a.t,b.t]=some (.ez (mK a b)):=iN ht TY (a,b) hl
def uE:iK:=⟨gY×Int,λa=>[a.1.t,C a.2],λa=>a.1.ee.length<=1099511627776,λa=>sl ((ji a.2 a.1.ee 0).map (T.int .i64)),λa c b=>by simp at b;rw[gY.inj b.1,b.2]⟩
def QR:uE.Ok prog cx 51:=by
 refine iF [] (jF 1073743991 [] func51) (λy=>y.1.ee.length+1) (by simp[uE]) ?_;rintro⟨j,q⟩ hl e x;simp[uE]at hl x|-;obtain⟨A,h⟩:=x;simp[f51,A];refine ik j.ee.length B (λc e a=>Hp a/\1<=a.size/\a.get 0=some (X 4 0 [j.t])/\Y e 1 (C q)/\Y e 2 (.fc 0 0 0 0)/\Y e 6 (C c)/\∃u d,Y e 5 u/\u7 a 1 u 1 (d.map (T.int .i64))/\d.length<=c/\d++ji q (j.ee.drop c) c=ji q j.ee 0) ?_ ?_ B ?_
 ·rintro c e a s w ⟨n,o,g,h,k,m,u,d,l,i,D,b⟩;rw[aJ s,ji]at b;by_cases p:(j.ee[c]).je=3
  ·by_cases r:(j.ee[c]).cond=q
   ·rw[au ⟨p,r⟩]at b;have⟨H,F,z,E,v⟩:=i.Vp (cx:=cx) o kO rfl nP rfl G G (c:Int) dR;simp[g,h,k,l,m,s,w,p,r,z];refine⟨v.hp n,aU o v.size,by rw[v.get 0 B];exact g,_,E,dR,by simpa using b⟩
   ·rw[Z (λa=>r a.2)]at b;simp[g,h,k,l,m,s,w,p,r];exact⟨n,o,d,i,B,b⟩
  ·rw[Z (λa=>p a.1)]at b;simp[g,h,k,l,m,s,w,p];exact⟨n,o,d,i,B,b⟩
 ·rintro e a ⟨n,o,g,h,k,m,u,d,l,i,D,b⟩;simp[ji]at b;simp[g,k,l,m,i.jc,i.fzM (f:=T.int .i64) G,b,n]
 ·simp[h];exact u7.nil _ _ _
def Cn{c:io}(ht:c.p 51=some uE)(a:gY)(b:Int)(hl:a.ee.length<=1099511627776):rl prog cx c 51 [a.t,C b]=some (sl ((ji b a.ee 0).map (T.int .i64))):=iN ht QR (a,b) hl
def SI(a:List Int)(b:Int):(uk a b).length<=a.length+1:=by
 induction a with
 |nil=>simp[uk]
 |cons d a c=>rw[uk];split<;>(try split)<;>simp<;>omega
def nI(a:List Int)(b:List Int):List Int:=b.foldl uk a
def AK(a b:List Int):(nI a b).length<=a.length+b.length:=by
 induction b generalizing a with
 |nil=>simp[nI]
 |cons c b d=>
  have e:=d (uk a c);have f:=SI a c;show(nI (uk a c) b).length<=_;simp;omega
def DC(c b:List Int){a:Nat}(d:a<b.length):nI c (b.take (a+1))=uk (nI c (b.take a)) b[a]:=by
 rw[aP d];unfold nI;rw[List.foldl_append];rfl
def CC(a b:List Int):List Int:=nI (nI [] a) b
def nV:iK:=⟨fy×gY×Int×Int×Int,λa=>[a.1.t,a.2.1.t,C a.2.2.1,C a.2.2.2.1,C a.2.2.2.2],λa=>a.1.iL.length<=1099511627776/\a.2.1.sm,λa=> .ez (iV a.1 a.2.1 a.2.2.1 a.2.2.2.1 a.2.2.2.2),λa c b=>by
 simp at b;rw[fy.inj b.1,gY.inj b.2.1,b.2.2.1,b.2.2.2.1,b.2.2.2.2]⟩
def ad2:io:=⟨pt [(37,uF),(38,AG),(36,uj),(12,D2)],ht []⟩
@[simp]def ahH:ad2.p=pt [(37,uF),(38,AG),(36,uj),(12,D2)]:=id rfl
def KW:nV.Ok prog cx 34:=by
 refine Ah (tb:=ad2) jv jl (jF 13215461614728367217751695970865548304603543200842114553566203007 [] func34) (λa=>1) (by simp[nV]) nl9 ?_;rintro⟨p,l,t,A,f⟩ ⟨hl,J⟩ al F;simp[nV]at hl J F|-;obtain⟨v,w,q,D,r⟩:=F;cases m:mK p l with
 |false=>simp[f34,v,w,vS,hl,m,iV]
 |true=>
  cases o:ju t p.ee.length with
  |false=>simp[f34,v,w,q,vS,hl,m,DS,o,iV]
  |true=>
   cases i:j8 p A f with
   |false=>simp[f34,v,w,q,D,r,vS,hl,m,DS,o,N4,i,iV]
   |true=>
    obtain⟨K,ae,L⟩:=kY m;have H:=o;rw[<-L]at H;obtain⟨k,R,S⟩:=jn H;have V:=fU (fQ.1 o).1;have hE:iV p l t A f=vd p l t A f:=by simp[iV,m,o,i]
    have e:j2 l t=k:=by simp[j2,S]
    rw[hE];simp[f34,v,w,q,D,r,vS,hl,m,DS,o,N4,i,V,R];rcases qr i with rfl|rfl|rfl|rfl|rfl|rfl|rfl|rfl|rfl|g|g|g|g
    case inl|inr.inl|inr.inr.inl|inr.inr.inr.inl|inr.inr.inr.inr.inl|inr.inr.inr.inr.inr.inl|inr.inr.inr.inr.inr.inr.inl|inr.inr.inr.inr.inr.inr.inr.inl|inr.inr.inr.inr.inr.inr.inr.inr.inl=>
     by_cases d:k.je=2<;>simp[vd,e,d]
    ·have b:=kJ i g;rw[<-K]at b;obtain⟨n,s,x⟩:=jn b;have j:=fU (fQ.1 b).1;have h:kl l f=n:=by simp[kl,x]
     have U:n.fO.length<=1099511627776:=by have:=J.2.2.2 n (aC s);omega
     by_cases d:k.je=2
     ·by_cases ab:n.jg=-1<;>rcases g with rfl|rfl|rfl|rfl|rfl|rfl<;>simp[q,r,j,s,vd,e,d,h,ab,RB,U]
     ·rcases g with rfl|rfl|rfl|rfl|rfl|rfl<;>simp[vd,e,d]
    ·have b:=mZ i g;obtain⟨c,y,N⟩:=jn b;have j:=fU (fQ.1 b).1;have z:=r7 m y;rw[<-K]at z;obtain⟨n,s,x⟩:=jn z;have I:=fU (fQ.1 z).1;have h:pT p l f=n:=by simp[pT,N,kl,x]
     by_cases d:k.je=2
     ·rcases g with rfl|rfl|rfl|rfl<;>simp[q,j,y,I,s,vd,e,d,h]
     ·by_cases E:k.je=4
      ·by_cases O:k.cond=f<;>rcases g with rfl|rfl|rfl|rfl<;>simp[r,j,y,I,s,vd,e,h,E,O]
      ·rcases g with rfl|rfl|rfl|rfl<;>simp[vd,e,d,E]
    ·have b:=rR i g;rw[<-L]at b;obtain⟨u,W,Z⟩:=jn b;have j:=fU (fQ.1 b).1;have h:j2 l f=u:=by simp[j2,Z]
     by_cases d:k.je=2
     ·by_cases T:f=t<;>rcases g with rfl|rfl<;>simp[r,j,W,vd,e,d,h,T]
     ·rcases g with rfl|rfl<;>simp[vd,e,d]
    ·have b:=uv i g;rw[<-ae]at b;obtain⟨M,P,Q⟩:=jn b;have j:=fU (fQ.1 b).1;have h:Gv l f=M:=by simp[Gv,Q]
     by_cases d:k.je=2
     ·rcases g with rfl|rfl<;>simp[j,P,vd,e,d,h]
     ·rcases g with rfl|rfl<;>simp[vd,e,d]
def xN{f:io}(ht:f.p 34=some nV)(b:fy)(a:gY)(e c d:Int)(hl:b.iL.length<=1099511627776)(g:a.sm):rl prog cx f 34 [b.t,a.t,C e,C c,C d]=some (.ez (iV b a e c d)):=iN ht KW (b,a,e,c,d) ⟨hl,g⟩
