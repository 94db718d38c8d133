/- W07 -/
import Derived.Test.YtbappgeamhmmbaaGreatDoorA8
set_option linter.all false
set_option maxRecDepth 100000
set_option maxHeartbeats 0
namespace Go.Proofs.YtbappgeamhmmbaaGreatDoor
noncomputable section
open Go Go.TI Tryz
section
attribute [-simp] List.map_take List.map_drop List.map_append
def De:ge:=⟨List Int×Int,λa=>[sl (a.1.map (T.int .i64)),D a.2],λa=>a.1.length<=1099511627776,λa=> .bool (decide (a.2∈a.1)),λa c b=>by
 simp at b;rw[jt J b.1,b.2]⟩
def aam:De.Ok prog cx 80:=by
 refine fR [] (iP 131635 [] func80) (λl=>l.1.length+1) (by simp[De]) ?_;rintro⟨d,g⟩ hl c j;simp[De]at hl j|-;obtain⟨a,b⟩:=j;simp[f80,a,b];refine fc d.length B (λf c h=>h=hE/\dy c 0 (sl (d.map (T.int .i64)))/\dy c 1 (D g)/\dy c 5 (D f)/\(g∈d.drop f↔g∈d)) ?_ ?_ B (by simp[a,b])
 ·rintro f c h i m ⟨rfl,a,b,e,n⟩;have o:=aH i;by_cases k:d[f]=g
  ·simp[a,b,e,i,k];grind
  ·simp[a,b,e,i,k,m];grind
 ·rintro c h ⟨rfl,a,b,e,n⟩;simp[a,b,e];grind
def Pt{c:fw}(ht:c.p 80=some De)(a:List Int)(b:Int)(hl:a.length<=1099511627776):rl prog cx c 80 [sl (a.map (T.int .i64)),D b]=some (.bool (decide (b∈a))):=gG ht aam (a,b) hl
def s7:List Int->Int->List Int
 | [],a=>[a]
 |x::b,a=>if x<a then x::s7 b a else if x=a then x::b else a::x::b
def H9:ge:=⟨List Int×Int,λa=>[sl (a.1.map (T.int .i64)),D a.2],λa=>a.1.length<=1099511627776,λa=>sl ((s7 a.1 a.2).map (T.int .i64)),λa c b=>by
 simp at b;rw[jt J b.1,b.2]⟩
def aag:H9.Ok prog cx 220:=by
 refine fR [] (iP 4295229555 [] func220) (λA=>A.1.length+1) (by simp[H9]) ?_;rintro⟨c,h⟩ hl j z;simp[H9]at hl z|-;obtain⟨a,b⟩:=z;simp[f220,a,b];refine fc c.length B (λd j u=>u=hE/\dy j 0 (sl (c.map (T.int .i64)))/\dy j 1 (D h)/\dy j 5 (D d)/\s7 c h=c.take d++s7 (c.drop d) h) ?_ ?_ B (by simp[a,b])
 ·rintro d j u g v ⟨rfl,a,b,e,k⟩;have n:=aH g;by_cases i:c[d]<h
  ·simp[a,b,e,g,i,v];rw[k,n,s7,aq i,aT g,cO,List.singleton_append]
  ·by_cases o:c[d]=h
   ·simp[a,b,e,g,i,v,o];rw[k,n,s7,ao i,aq o,<-n,cF]
   ·simp[a,b,e,g,i,v,o,bm g];have w:rx (H.cons hE (Z 1 0 [])) 0 (.arr 0 0 0 0 false) 1 (([]:List Int).map (T.int .i64)):= .inr ⟨0,0,0,true,J,rfl,J⟩;have⟨G,C,p,x,r⟩:=w.RZ (cx:=cx) (aw _) kO rfl nN rfl J J (c.take d) dp;simp[p];have⟨I,E,q,y,s⟩:=x.PF (cx:=cx) (aw _) kO rfl nN rfl J J h dp;simp[q,a,b,e,bm g];have⟨K,F,m,l,t⟩:=y.RZ (cx:=cx) (aw _) kO rfl nN rfl J J (c.drop d) dp;simp[m,l.fg,l.fzM (f:=T.int .i64) J];refine⟨t.hp (s.hp (r.hp J)),?_⟩;rw[k,n,s7,ao i,ao o]
 ·rintro j u ⟨rfl,a,b,e,k⟩;simp[a,b,e];have w:rx (H.cons hE (Z 1 0 [])) 0 (.arr 0 0 0 0 false) 1 (([]:List Int).map (T.int .i64)):= .inr ⟨0,0,0,true,J,rfl,J⟩;have⟨G,C,p,x,r⟩:=w.RZ (cx:=cx) (aw _) kO rfl nN rfl J J c dp;simp[p];have⟨I,E,q,y,s⟩:=x.PF (cx:=cx) (aw _) kO rfl nN rfl J J h dp;simp[q,a,b,e];have⟨K,F,m,l,t⟩:=y.RZ (cx:=cx) (aw _) kO rfl nN rfl J J [] dp;rw[bY]at m;simp[m,l.fg,l.fzM (f:=T.int .i64) J];refine⟨t.hp (s.hp (r.hp J)),?_⟩;rw[k];simp[s7]
def abN{c:fw}(ht:c.p 220=some H9)(a:List Int)(b:Int)(hl:a.length<=1099511627776):rl prog cx c 220 [sl (a.map (T.int .i64)),D b]=some (sl ((s7 a b).map (T.int .i64))):=gG ht aag (a,b) hl
def rK:ge:=⟨Int×Nat,λa=>[D a.1,D a.2],λa=>True,λa=> .bool (iR a.1 a.2),λa c b=>by simp at b;rw[b.1,show a.2=c.2 by omega]⟩
def Vo:rK.Ok prog cx 163:=by
 refine fR [] (iP 19 [] func163) (λf=>1) (by simp[rK]) ?_;rintro⟨e,g⟩ _ h a;simp[rK]at a|-;obtain⟨b,c⟩:=a;by_cases d:0<=e<;>simp[f163,b,c,d,iR]
def Ej{c:fw}(ht:c.p 163=some rK)(a:Int)(b:Nat):rl prog cx c 163 [D a,D b]=some (.bool (iR a b)):=gG ht Vo (a,b) trivial
def zm:ge:=⟨dR×Int×Int,λa=>[a.1.t,D a.2.1,D a.2.2],λa=>True,λa=> .bool (ju a.1 a.2.1 a.2.2),λa c b=>by simp at b;rw[dR.inj b.1,b.2.1,b.2.2]⟩
def QQ:zm.Ok prog cx 164:=by
 refine fR [(163,rK)] (iP 606826398900554784047567 [] func164) (λn=>1) (by simp[zm]) ?_;rintro⟨m,a,l⟩ _ p g;simp[zm]at g|-;obtain⟨e,c,d⟩:=g;by_cases i:1<=a/\a<=23
 ·have h:a=1\/a=2\/a=3\/a=4\/a=5\/a=6\/a=7\/a=8\/a=9\/a=10\/a=11\/a=12\/a=13\/a=14\/a=15\/a=16\/a=17\/a=18\/a=19\/a=20\/a=21\/a=22\/a=23:=B;rcases h with rfl|rfl|rfl|rfl|rfl|rfl|rfl|rfl|rfl|rfl|rfl|rfl|rfl|rfl|rfl|rfl|rfl|rfl|rfl|rfl|rfl|rfl|rfl
  case inr.inr.inr.inr.inr.inl|inr.inr.inr.inr.inr.inr.inl|inr.inr.inr.inr.inr.inr.inr.inl|inr.inr.inr.inr.inr.inr.inr.inr.inl|inr.inr.inr.inr.inr.inr.inr.inr.inr.inl|inr.inr.inr.inr.inr.inr.inr.inr.inr.inr.inl=>
   cases hl:iR l m.dW.length with
   |true=>
    obtain⟨q,j,k⟩:=im hl;simp[f164,e,c,d,Ej,hl,j,k,ju,ee (ff.1 hl).1]
   |false=>simp[f164,e,c,d,Ej,hl,qn hl,ju]
  all_goals simp [f164,e,c,d,Ej,ju]
 ·have b:∀f:Int,1<=f->f<=23->¬a=f:=λf c d o=>i B;simp[f164,e,c,d,ju,b 1,b 2,b 3,b 4,b 5,b 6,b 7,b 8,b 9,b 10,b 11,b 12,b 13,b 14,b 15,b 16,b 17,b 18,b 19,b 20,b 21,b 22,b 23]
def Pp{d:fw}(ht:d.p 164=some zm)(c:dR)(a b:Int):rl prog cx d 164 [c.t,D a,D b]=some (.bool (ju c a b)):=gG ht QQ (c,a,b) trivial
def rL:ge:=⟨dR×fa,λa=>[a.1.t,a.2.t],λa=>a.1.fV.length<=1099511627776,λa=> .bool (lY a.1 a.2),λa c b=>by simp at b;rw[dR.inj b.1,fa.inj b.2]⟩
def N0:rL.Ok prog cx 124:=by
 refine fR [] (iP 2147484735 [] func124) (λp=>p.1.fV.length+1) (by simp[rL]) ?_;rintro⟨a,n⟩ hl d o;simp[rL]at hl o|-;obtain⟨q,r⟩:=o;simp[f124,q,r];refine fc a.fV.length B (λb d l=>l=H.cons (H.cons hE (Z 6 0 [a.t])) (Z 4 0 [n.t])/\dy d 2 (.ptr 0 0 0 0)/\dy d 3 (.ptr 1 0 0 0)/\dy d 5 (D b)/\(a.fV.drop b).all (λe=>iR e.j2 a.dW.length)=a.fV.all λe=>iR e.j2 a.dW.length) ?_ ?_ B J
 ·rintro b d l k m ⟨rfl,f,g,h,c⟩;rw[aH k,cq]at c;by_cases i:(a.fV[b]).j2<0
  ·have:iR (a.fV[b]).j2 a.dW.length=false:=by simp[iR];omega
   simp[f,g,h,k,i,m,lY,<-c,this]
  ·by_cases j:(a.dW.length:Int)<=(a.fV[b]).j2
   ·have:iR (a.fV[b]).j2 a.dW.length=false:=by simp[iR];omega
    simp[f,g,h,k,i,j,m,lY,<-c,this]
   ·have:iR (a.fV[b]).j2 a.dW.length=true:=by simp[iR];omega
    rw[this,bD]at c;simp[f,g,h,k,i,j,m,c]
 ·rintro d l ⟨rfl,f,g,h,c⟩;have s:(a.fV.all λe=>iR e.j2 a.dW.length)=true:=by rw[<-c];simp
  by_cases i:n.dW.length=a.dW.length<;>by_cases j:n.done.length=a.dU.length<;>simp[f,g,h,lY,s,i,j,Int.natCast_inj]
def um{c:fw}(ht:c.p 124=some rL)(a:dR)(b:fa)(hl:a.fV.length<=1099511627776):rl prog cx c 124 [a.t,b.t]=some (.bool (lY a b)):=gG ht N0 (a,b) hl
def uP:ge:=⟨fa×Int,λa=>[a.1.t,D a.2],λa=>a.1.dC.length<=1099511627776,λa=>sl ((hU a.2 a.1.dC 0).map (T.int .i64)),λa c b=>by simp at b;rw[fa.inj b.1,b.2]⟩
def Lh:uP.Ok prog cx 165:=by
 refine fR [] (iP 1073743991 [] func165) (λy=>y.1.dC.length+1) (by simp[uP]) ?_;rintro⟨j,q⟩ hl g x;simp[uP]at hl x|-;obtain⟨A,c⟩:=x;simp[f165,A,c];refine fc j.dC.length B (λd g a=>Hp a/\1<=a.size/\a.get 0=some (Z 4 0 [j.t])/\dy g 1 (D q)/\dy g 2 (.ptr 0 0 0 0)/\dy g 6 (D d)/\∃u e,dy g 5 u/\rx a 1 u 1 (e.map (T.int .i64))/\e.length<=d/\e++hU q (j.dC.drop d) d=hU q j.dC 0) ?_ ?_ B ?_
 ·rintro d g a s w ⟨n,o,h,c,k,m,u,e,l,i,C,b⟩;rw[aH s,hU]at b;by_cases p:(j.dC[d]).iv=3
  ·by_cases r:(j.dC[d]).cond=q
   ·rw[aq ⟨p,r⟩]at b;have⟨G,F,z,E,v⟩:=i.PF (cx:=cx) o kO rfl nN rfl J J (d:Int) dp;simp[h,c,k,l,m,s,w,p,r,z];refine⟨v.hp n,aO o v.size,by rw[v.get 0 B];exact h,_,E,dp,by simpa using b⟩
   ·rw[ao (λa=>r a.2)]at b;simp[h,c,k,l,m,s,w,p,r];exact⟨n,o,e,i,B,b⟩
  ·rw[ao (λa=>p a.1)]at b;simp[h,c,k,l,m,s,w,p];exact⟨n,o,e,i,B,b⟩
 ·rintro g a ⟨n,o,h,c,k,m,u,e,l,i,C,b⟩;simp[hU]at b;simp[h,c,k,l,m,i.fg,i.fzM (f:=T.int .i64) J,b,n]
 ·simp[c];exact rx.nil _ _ _
def CO{c:fw}(ht:c.p 165=some uP)(a:fa)(b:Int)(hl:a.dC.length<=1099511627776):rl prog cx c 165 [a.t,D b]=some (sl ((hU b a.dC 0).map (T.int .i64))):=gG ht Lh (a,b) hl
def M5(a:List Int)(b:Int):(s7 a b).length<=a.length+1:=by
 induction a with
 |nil=>simp[s7]
 |cons d a c=>rw[s7];split<;>(try split)<;>simp<;>omega
def lq(a:List Int)(b:List Int):List Int:=b.foldl s7 a
def xf(a b:List Int):(lq a b).length<=a.length+b.length:=by
 induction b generalizing a with
 |nil=>simp[lq]
 |cons c b d=>
  have e:=d (s7 a c);have f:=M5 a c;show(lq (s7 a c) b).length<=_;simp;omega
def At(c b:List Int){a:Nat}(d:a<b.length):lq c (b.take (a+1))=s7 (lq c (b.take a)) b[a]:=by
 rw[aT d];unfold lq;rw[List.foldl_append];rfl
def zd(a b:List Int):List Int:=lq (lq [] a) b
def ny:ge:=⟨dR×fa×Int×Int×Int,λa=>[a.1.t,a.2.1.t,D a.2.2.1,D a.2.2.2.1,D a.2.2.2.2],λa=>a.1.fV.length<=1099511627776/\a.2.1.sm,λa=> .bool (jw a.1 a.2.1 a.2.2.1 a.2.2.2.1 a.2.2.2.2),λa c b=>by
 simp at b;rw[dR.inj b.1,fa.inj b.2.1,b.2.2.1,b.2.2.2.1,b.2.2.2.2]⟩
def ZD:fw:=⟨pt [(163,rK),(164,zm),(124,rL),(80,De)],ht []⟩
@[simp]def aez:ZD.p=pt [(163,rK),(164,zm),(124,rL),(80,De)]:=id rfl
def Gp:ny.Ok prog cx 117:=by
 refine Bp (tb:=ZD) iB gW (iP 13215461614728367217751695970865548304603543200842114553566203007 [] func117) (λa=>1) (by simp[ny]) nl9 ?_;rintro⟨r,n,t,C,i⟩ ⟨hl,I⟩ al F;simp[ny]at hl I F|-;obtain⟨v,w,b,x,d⟩:=F;cases o:lY r n with
 |false=>simp[f117,v,w,b,x,d,um,hl,o,jw]
 |true=>
  cases q:iR t r.dC.length with
  |false=>simp[f117,v,w,b,x,d,um,hl,o,Ej,q,jw]
  |true=>
   cases k:ju r C i with
   |false=>simp[f117,v,w,b,x,d,um,hl,o,Ej,q,Pp,k,jw]
   |true=>
    obtain⟨K,ae,L⟩:=nL o;have G:=q;rw[<-L]at G;obtain⟨m,R,S⟩:=im G;have V:=ee (ff.1 q).1;have hE:jw r n t C i=xL r n t C i:=by simp[jw,o,q,k]
    have h:ow n t=m:=by simp[ow,S]
    rw[hE];simp[f117,v,w,b,x,d,um,hl,o,Ej,q,Pp,k,V,R];rcases qv k with rfl|rfl|rfl|rfl|rfl|rfl|rfl|rfl|rfl|g|g|g|g
    case inl|inr.inl|inr.inr.inl|inr.inr.inr.inl|inr.inr.inr.inr.inl|inr.inr.inr.inr.inr.inl|inr.inr.inr.inr.inr.inr.inl|inr.inr.inr.inr.inr.inr.inr.inl|inr.inr.inr.inr.inr.inr.inr.inr.inl=>
     by_cases f:m.iv=2<;>simp[b,d,xL,h,f]
    ·have e:=kr k g;rw[<-K]at e;obtain⟨p,s,y⟩:=im e;have l:=ee (ff.1 e).1;have j:ls n i=p:=by simp[ls,y]
     have U:p.ed.length<=1099511627776:=by have:=I.2.2.2 p (ax s);omega
     by_cases f:m.iv=2
     ·by_cases Y:p.iy=-1<;>rcases g with rfl|rfl|rfl|rfl|rfl|rfl<;>simp[b,d,l,s,xL,h,f,j,Y,Pt,U]
     ·rcases g with rfl|rfl|rfl|rfl|rfl|rfl<;>simp[b,d,xL,h,f]
    ·have e:=mG k g;obtain⟨c,z,N⟩:=im e;have l:=ee (ff.1 e).1;have A:=qY o z;rw[<-K]at A;obtain⟨p,s,y⟩:=im A;have H:=ee (ff.1 A).1;have j:qZ r n i=p:=by simp[qZ,N,ls,y]
     by_cases f:m.iv=2
     ·rcases g with rfl|rfl|rfl|rfl<;>simp[b,d,l,z,H,s,xL,h,f,j]
     ·by_cases E:m.iv=4
      ·by_cases O:m.cond=i<;>rcases g with rfl|rfl|rfl|rfl<;>simp[b,d,l,z,H,s,xL,h,f,j,E,O]
      ·rcases g with rfl|rfl|rfl|rfl<;>simp[b,d,xL,h,f,E]
    ·have e:=we k g;rw[<-L]at e;obtain⟨u,W,X⟩:=im e;have l:=ee (ff.1 e).1;have j:ow n i=u:=by simp[ow,X]
     by_cases f:m.iv=2
     ·by_cases T:i=t<;>rcases g with rfl|rfl<;>simp[b,d,l,W,xL,h,f,j,T]
     ·rcases g with rfl|rfl<;>simp[b,d,xL,h,f]
    ·have e:=qx k g;rw[<-ae]at e;obtain⟨M,P,Q⟩:=im e;have l:=ee (ff.1 e).1;have j:CH n i=M:=by simp[CH,Q]
     by_cases f:m.iv=2
     ·rcases g with rfl|rfl<;>simp[b,d,l,P,xL,h,f,j]
     ·rcases g with rfl|rfl<;>simp[b,d,xL,h,f]
def xD{f:fw}(ht:f.p 117=some ny)(b:dR)(a:fa)(e c d:Int)(hl:b.fV.length<=1099511627776)(g:a.sm):rl prog cx f 117 [b.t,a.t,D e,D c,D d]=some (.bool (jw b a e c d)):=gG ht Gp (b,a,e,c,d) ⟨hl,g⟩
